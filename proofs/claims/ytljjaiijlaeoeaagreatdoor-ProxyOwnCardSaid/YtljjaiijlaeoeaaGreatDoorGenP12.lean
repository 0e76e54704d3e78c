/- A part. -/
import Derived.Test.YtljjaiijlaeoeaaGreatDoorEng38
import Derived.Test.YtljjaiijlaeoeaaGreatDoorEng36
import Derived.Test.YtljjaiijlaeoeaaGreatDoorGenP11
namespace Go.Proofs
set_option maxHeartbeats 4000000
set_option maxRecDepth 10000
open Go.Eng Go.Eng.Pure
set_option linter.unusedVariables false
theorem zDf {w0:World} {H0:Hp} (hw:Holds w0 H0) (hG:Tryz.Gl w0) (bd:Str) (cy:Str) (dv:Bool) {r:(GResponse×Int×Int)} (h:zCB bd cy dv=some r) :
  Con Tryz.prog 58 [(str bd),(str cy),(boo dv)] w0 H0 (fun H' v=>∃ u1:Value,v=(.tuple ⟨[(agg [(int r.1.fMinor),(int r.1.fStatus),(str r.1.fReason),u1,(str r.1.fBody)]),(int r.2.1),(int r.2.2)]⟩)∧Sl H' u1 r.1.fFields):=by
 refine CM 121 Tryz.func58 hw fun S=>?_
 refine Ws<|Wg ?_
 refine W.alloc [(int 0),(int 0),(str []),(.slice none 0 0),(str [])] S zer24 ?_
 intro b1 w2 S
 refine A<|A<|We<|Ws<|Wg<|M ?_
 refine WL.w (R.build [(0,(str bd))] [(str bd),(int 0),(.slice none 0 0),(.slice none 0 0),(.slice none 0 0)] bp186 zJC rfl rfl) ?_
 refine WL.w (R.build [(0,(agg [(str bd),(int 0),(.slice none 0 0),(.slice none 0 0),(.slice none 0 0)]))] [(str bd),(int 0),(.slice none 0 0),(.slice none 0 0),(.slice none 0 0),(int 0),(int 0),(str []),(.slice none 0 0),(str [])] bp188 zJr rfl rfl) ?_
 refine W.box [(str bd),(int 0),(.slice none 0 0),(.slice none 0 0),(.slice none 0 0),(int 0),(int 0),(str []),(.slice none 0 0),(str [])] S rfl rfl ?_
 intro b3 w4 S
 refine A<|We<|Ws<|Ws<|Wg<|M<|Nn<|Fb<|M ?_
 refine WL.w (R.mkFuncB (bs:=[(ptr b3 0)]) (vs:=[]) rfl rfl) ?_
 obtain ⟨⟨eb,m8,m9,cz,br,b2,u,t,x,c0,b4⟩,c1,h⟩:=bindE h
 refine W.inl (args:=[(ptr b3 0),(.func (.func 112) [(ptr b3 0)].toArray [].toArray)]) rfl (N':=65) Tryz.func111 rfl rfl kr rfl (WP.inC (fun f w=>∃ (H5:Hp) (p:Value) (a8:Value) (ba:Value) (bw:Value),f 4=(int eb)∧Sl H5 p cz∧Sl H5 a8 br∧Sl H5 ba b2∧Sl H5 bw c0∧St w0 H0 w H5 [.box b3 188 [(str m8),(int m9),p,a8,ba,(int u),(int t),(str x),bw,(str b4)],.box b1 24 [(int 0),(int 0),(str []),(.slice none 0 0),(str [])]]) ?_ ?_)
 ·refine Ws<|Wg<|A<|We<|Ws<|Wg<|A<|We ?_
  obtain ⟨b5,c2⟩:∃ v:Value,v=.slice none 0 0:=⟨_,rfl⟩
  have ec:Sl (α:=GField) H0 b5 []:=by rw [c2]; exact Sl.nil
  replace S:=(show ∀ {w:World},St w0 H0 w H0 [.box b3 188 [(str bd),(int 0),(.slice none 0 0),(.slice none 0 0),(.slice none 0 0),(int 0),(int 0),(str []),(.slice none 0 0),(str [])],.box b1 24 [(int 0),(int 0),(str []),(.slice none 0 0),(str [])]]→St w0 H0 w H0 [.box b3 188 [(str bd),(int 0),b5,(.slice none 0 0),(.slice none 0 0),(int 0),(int 0),(str []),(.slice none 0 0),(str [])],.box b1 24 [(int 0),(int 0),(str []),(.slice none 0 0),(str [])]] from fun S=>by rw [c2]; exact S) S
  replace S:=St.addNilV c2 S 68 2
  obtain ⟨c3,c4⟩:∃ v:Value,v=.slice none 0 0:=⟨_,rfl⟩
  have ed:Sl (α:=Str) H0 c3 []:=by rw [c4]; exact Sl.nil
  replace S:=(show ∀ {w:World},St w0 H0 w H0 [.row b5 68 2 ([]:List GField).length,.box b3 188 [(str bd),(int 0),b5,(.slice none 0 0),(.slice none 0 0),(int 0),(int 0),(str []),(.slice none 0 0),(str [])],.box b1 24 [(int 0),(int 0),(str []),(.slice none 0 0),(str [])]]→St w0 H0 w H0 [.row b5 68 2 ([]:List GField).length,.box b3 188 [(str bd),(int 0),b5,c3,(.slice none 0 0),(int 0),(int 0),(str []),(.slice none 0 0),(str [])],.box b1 24 [(int 0),(int 0),(str []),(.slice none 0 0),(str [])]] from fun S=>by rw [c4]; exact S) S
  replace S:=St.addNilV c4 S 9 1
  refine B c1 fun ee ef c1=>WP.cut (fun _ _=>False) ?_ (fun _ _ h=>h.elim)
  refine Wb ?_
  refine WP.loopM (zBh) (fun s f w=>match s with | (ca,ap,aj,c5,c6,cv,a5,az,ay,cw,av)=>∃ (cb:Hp) (ak:Value) (al:Value) (af:Value) (ah:Value),f 0=(ptr b3 0)∧f 1=(.func (.func 112) [(ptr b3 0)].toArray [].toArray)∧f 5=(int ca)∧Sl cb ak c5∧Sl cb al c6∧Sl cb af cv∧Sl cb ah cw∧St w0 H0 w cb [.row al 9 1 c6.length,.row ak 68 2 c5.length,.box b3 188 [(str ap),(int aj),ak,al,af,(int a5),(int az),(str ay),ah,(str av)],.box b1 24 [(int 0),(int 0),(str []),(.slice none 0 0),(str [])]]) (0,bd,0,([]:List GField),([]:List Str),([]:List Str),0,0,[],([]:List GField),[]) ee (lfW ef) ?_ ?_
  ·exact ⟨H0,b5,c3,.slice none 0 0,.slice none 0 0,rfl,rfl,rfl,ec,ed,Sl.nil,Sl.nil,S⟩
  intro s f w hI f0 a6 eg
  obtain ⟨ca,ap,aj,c5,c6,cv,a5,az,ay,cw,av⟩:=s
  obtain ⟨cb,ak,al,af,ah,b6,c7,cx,o,k,c,d,S⟩:=hI
  refine Ws<|Wb<|Ws<|WP.quiet S kr kr<|QM' b6<|QNn<|QFb ?_
  refine QB 2 (str ap)<|QM' b6<|QNn<|QFb ?_
  refine QB 2 (int aj)<|B a6 fun eh ei a6=>QJc ei<|B a6 fun ad ej a6=>WQ.call (v:=.tuple ⟨[(str ad.1),(int ad.2.1),(int ad.2.2)]⟩) rfl (fun w H' hq S=>zEy S.holds (hG.post S.post) eh ej)<|QM ?_
  refine QEx ?_
  refine QEx ?_
  refine QEx<|QA<|QA<|QA<|WQ.nil ?_
  intro f1 ek el S
  have ⟨o,k,c,d⟩:=U4 el o k c d
  refine Ws<|Ws<|Wg<|M<|Lf<|We ?_
  rcases condE a6 with ⟨c8,a6⟩ | ⟨c8,a6⟩
  ·refine CT c8 ?_
   cases a6
  refine CF c8<|Wk<|Ws<|Wg<|M' b6<|Nn<|Fb ?_
  refine Lo 2 S<|M<|Lg<|Nn<|Fb ?_
  refine W.store (i:=2) [(str ap),(int (wr (aj+ad.2.1))),ak,al,af,(int a5),(int az),(str ay),ah,(str av)] S rfl rfl rfl lay3 rfl rfl (Nat.le_of_ble_eq_true rfl) rfl ?_
  intro f2 S
  refine We<|Ws<|B a6 fun dx ax a6=>WP.cut (fun f w=>match dx with | .inl (dy,c9,da,dz,d0,d1)=>∃ (b7:Hp) (ce:Value) (cf:Value),f 0=(ptr b3 0)∧f 1=(.func (.func 112) [(ptr b3 0)].toArray [].toArray)∧f 5=(int ca)∧f 8=(int dy)∧Sl b7 ce c9∧Sl b7 cf da∧Sl b7 af cv∧Sl b7 ah cw∧St w0 H0 w b7 [.row cf 9 1 da.length,.row ce 68 2 c9.length,.box b3 188 [(str ap),(int (wr (aj+ad.2.1))),ce,cf,af,(int dz),(int d0),(str d1),ah,(str av)],.box b1 24 [(int 0),(int 0),(str []),(.slice none 0 0),(str [])]] | .inr _=>False) ?_ ?_
  ·refine Wb<|Ws<|Wg<|M' b6<|Nn<|Fb ?_
   refine Lo 2 S<|Lc<|M ?_
   refine WL.grp 7 [46,47,48,49,50,51] 52 (boo ((decide (16000<(wr (aj+ad.2.1))))||((decide (64<ca))&&(ad.1 !=[])))) ?_ ?_
   ·rcases boolE (decide (16000<(wr (aj+ad.2.1)))) with a9 | a9
    ·refine Gn a9<|Gn a9<|Gn a9<|WL.gund rfl rfl<|WL.gund rfl rfl<|Gn a9<|Pt a9 ?_
     exact We ⟨(orT a9),ag,rfl⟩
    refine Gy a9<|M' cx<|Gy a9<|Lc<|Gy a9<|M ?_
    refine WL.grp 3 [49,50] 51 (boo ((decide (64<ca))&&(ad.1 !=[]))) ?_ ?_
    ·rcases boolE (decide (64<ca)) with bx | bx
     ·refine Gy bx<|M<|Gy bx<|Nb<|Gy a9<|Pt bx ?_
      exact We ⟨(andT bx),ag,rfl⟩
     refine Gn bx<|Gn bx<|Gy a9<|Pf bx ?_
     exact We ⟨(andF bx),ag,rfl⟩
    intro us
    refine Pf a9 ?_
    exact We ⟨(orF a9),ag,rfl⟩
   intro us
   refine A<|We ?_
   rcases condE ax with ⟨db,ax⟩ | ⟨db,ax⟩
   ·refine CT db ?_
    cases ax
   refine CF db<|Ws<|Wg<|M' cx<|Le<|A<|We ?_
   rcases condE ax with ⟨dc,ax⟩ | ⟨dc,ax⟩
   ·refine CT dc<|Wg<|M' c7<|M<|W.inlv (vs:=[(str ad.1)]) (bs:=[(ptr b3 0)]) (cs:=[]) rfl rfl (N':=25) Tryz.func112 rfl rfl kr rfl<|Ws<|Wg<|A<|We<|Ws<|Wg<|M ?_
    refine M<|M<|M<|B ax fun cc em ax=>W.call S rfl (zBk S.holds (hG.post S.post) ad.1 em) ?_
    rintro f3 f4 en eo S rfl
    have ⟨o,k,c,d⟩:=U4 eo o k c d
    refine M ?_
    refine Ex ?_
    refine Ex ?_
    refine Ex ?_
    refine Ex<|Nn<|Fb<|Fb ?_
    refine W.store (i:=2) [(str ap),(int (wr (aj+ad.2.1))),ak,al,af,(int cc.1),(int az),(str ay),ah,(str av)] S rfl rfl rfl lay3 rfl rfl (Nat.le_of_ble_eq_true rfl) rfl ?_
    intro f5 S
    refine Nn<|Fb<|Fb ?_
    refine W.store (i:=2) [(str ap),(int (wr (aj+ad.2.1))),ak,al,af,(int cc.1),(int cc.2.1),(str ay),ah,(str av)] S rfl rfl rfl lay3 rfl rfl (Nat.le_of_ble_eq_true rfl) rfl ?_
    intro f6 S
    refine Nn<|Fb<|Fb ?_
    refine W.store (i:=2) [(str ap),(int (wr (aj+ad.2.1))),ak,al,af,(int cc.1),(int cc.2.1),(str cc.2.2.1),ah,(str av)] S rfl rfl rfl lay9 rfl rfl (Nat.le_of_ble_eq_true rfl) rfl ?_
    intro f7 S
    refine A<|We<|Ws<|Wg<|M<|A<|We ?_
    refine WP.ret (In.one rfl rfl ?_)
    refine A<|We ?_
    obtain rfl:=oi ax
    exact ⟨en,ak,al,b6,c7,cx,rfl,o,k,c,d,S⟩
   refine CF dc<|Ws<|Wg<|M<|Na<|A<|We ?_
   rcases condE ax with ⟨dd,ax⟩ | ⟨dd,ax⟩
   ·refine CT dd<|Ws<|Wg<|A<|We ?_
    obtain rfl:=oi ax
    obtain rfl:=oi a6
    obtain rfl:=eg
    cases oi c1
    refine WP.ret ?_
    exact ⟨.inl rfl,⟨ek,ak,al,af,ah,rfl,o,k,c,d,(S.pk [2,3])⟩⟩
   refine CF dd<|Wg<|M' b6<|M<|W.inl (args:=[(ptr b3 0),(str ad.1)]) rfl (N':=56) Tryz.func177 rfl rfl kr rfl<|Ws<|Wg<|A<|We<|Ws<|Wg<|M<|B ax fun aa ep ax=>W.call S rfl (zC7 S.holds (hG.post S.post) ad.1 ep) ?_
   rintro f8 f9 ga eq S rfl
   have ⟨o,k,c,d⟩:=U4 eq o k c d
   refine M ?_
   refine Ex ?_
   refine Ex ?_
   refine W.alloc [(str []),(str [])] S zer68 ?_
   intro gb gc S
   refine W.store (i:=0) [(str aa.1.fName),(str aa.1.fValue)] S rfl rfl rfl lay68 rfl rfl (Nat.le_of_ble_eq_true rfl) rfl ?_
   intro gd S
   refine A<|We<|Ws ?_
   obtain ⟨⟨d2,d3⟩,q,ax⟩:=bindE ax
   refine WP.cut (fun f w=>∃ (b8:Hp) (cg:Value) (ch:Value),Sl b8 cg d2∧Sl b8 ch d3∧Sl b8 af cv∧Sl b8 ah cw∧St w0 H0 w b8 [.row ch 9 1 d3.length,.row cg 68 2 d2.length,.box b3 188 [(str ap),(int (wr (aj+ad.2.1))),cg,ch,af,(int a5),(int az),(str ay),ah,(str av)],.box b1 24 [(int 0),(int 0),(str []),(.slice none 0 0),(str [])]]) ?_ ?_
   ·refine Wb<|Ws<|Wg<|M<|Lf<|A<|We ?_
    rcases condE q with ⟨de,q⟩ | ⟨de,q⟩
    ·refine CT de ?_
     cases q
    refine CF de<|Ws<|Wg<|Fb ?_
    refine Lo 0 S<|B q fun ge er q=>W.call S rfl (zAV S.holds (hG.post S.post) aa.1.fName [67,111,110,116,101,110,116,45,76,101,110,103,116,104] er) ?_
    rintro gf gg gh es S rfl
    have ⟨o,k,c,d⟩:=U4 es o k c d
    refine A<|We ?_
    rcases condE q with ⟨df,q⟩ | ⟨df,q⟩
    ·refine CT df<|WP.draw kr 12 rfl (bm 12 0) rfl ?_
     have S:=S.drew
     refine At_ 0 12 1 rfl (fun _=>(R.mv (v:=ptr b3 0) rfl)) ?_
     refine At_ 1 12 3 rfl (fun _=>(R.mv (v:=ptr b3 0) rfl)) ?_
     refine At_ 5 12 35 rfl (fun _=>(R.fieldB rfl zIP)) ?_
     refine WA.two (i:=2) (j:=6) (bm 12 39) (bm 12 99) rfl rfl kr rfl rfl ?_ ?_
     ·refine Nn<|We ?_
      refine At_ 3 12 47 rfl (fun _=>(R.fieldB rfl zCg)) ?_
      refine WA.two (i:=4) (j:=6) (bm 12 63) (bm 12 111) rfl rfl kr rfl rfl ?_ ?_
      ·refine Lo 3 S<|We<|WA.one (i:=6) (bm 12 127) rfl kr rfl ?_
       refine Lo 0 S<|We<|WA.one (i:=7) (bm 12 255) rfl kr rfl<|W.bslice (α:=Str) [(str aa.1.fValue)] ([aa.1.fValue]:List Str) S el45 rfl rfl rfl (by decide) (Go.Eng.encS ⟨rfl,rfl⟩ enc0) ?_
       intro ci cj ck bg aq S
       have ⟨k,o,c,d⟩:=U4 bg k o c d
       refine We<|WA.one (i:=8) (bm 12 511) rfl kr rfl<|B q fun cl bh q=>W.app (α:=Str) (i:=2) S el45 rfl rfl rfl k aq bh ?_
       intro a0 cm bi bj a1 S
       have ⟨k,aq,o,c,d⟩:=U5 bj k aq o c d
       refine We<|WA.one (i:=9) (bm 12 1023) rfl kr rfl<|Nn<|We ?_
       refine At_ 10 12 2047 rfl (fun _=>(R.fieldB rfl zCg))<|WA.one (i:=11) (bm 12 4095) rfl kr rfl ?_
       refine W.storeSl (α:=Str) (i:=4) [(str ap),(int (wr (aj+ad.2.1))),ak,a0,af,(int a5),(int az),(str ay),ah,(str av)] S a1 rfl rfl rfl lay45 (Nat.le_of_ble_eq_true rfl) rfl ?_
       intro cn S
       refine We<|WA.done kr ?_
       cases oi q
       exact ⟨bi,ak,a0,o,a1,c,d,(S.pk [2,3,4,5])⟩
      refine Lo 0 S<|We ?_
      refine WA.two (i:=4) (j:=7) (bm 12 127) (bm 12 239) rfl rfl kr rfl rfl ?_ ?_
      ·refine Lo 3 S<|We<|WA.one (i:=7) (bm 12 255) rfl kr rfl<|W.bslice (α:=Str) [(str aa.1.fValue)] ([aa.1.fValue]:List Str) S el45 rfl rfl rfl (by decide) (Go.Eng.encS ⟨rfl,rfl⟩ enc0) ?_
       intro ci cj ck bg aq S
       have ⟨k,o,c,d⟩:=U4 bg k o c d
       refine We<|WA.one (i:=8) (bm 12 511) rfl kr rfl<|B q fun cl bh q=>W.app (α:=Str) (i:=2) S el45 rfl rfl rfl k aq bh ?_
       intro a0 cm bi bj a1 S
       have ⟨k,aq,o,c,d⟩:=U5 bj k aq o c d
       refine We<|WA.one (i:=9) (bm 12 1023) rfl kr rfl<|Nn<|We ?_
       refine At_ 10 12 2047 rfl (fun _=>(R.fieldB rfl zCg))<|WA.one (i:=11) (bm 12 4095) rfl kr rfl ?_
       refine W.storeSl (α:=Str) (i:=4) [(str ap),(int (wr (aj+ad.2.1))),ak,a0,af,(int a5),(int az),(str ay),ah,(str av)] S a1 rfl rfl rfl lay45 (Nat.le_of_ble_eq_true rfl) rfl ?_
       intro cn S
       refine We<|WA.done kr ?_
       cases oi q
       exact ⟨bi,ak,a0,o,a1,c,d,(S.pk [2,3,4,5])⟩
      refine W.bslice (α:=Str) [(str aa.1.fValue)] ([aa.1.fValue]:List Str) S el45 rfl rfl rfl (by decide) (Go.Eng.encS ⟨rfl,rfl⟩ enc0) ?_
      intro ci cj ck bg aq S
      have ⟨o,k,c,d⟩:=U4 bg o k c d
      refine We<|WA.one (i:=4) (bm 12 255) rfl kr rfl ?_
      refine Lo 4 S<|We<|WA.one (i:=8) (bm 12 511) rfl kr rfl<|B q fun cl bh q=>W.app (α:=Str) (i:=2) S el45 rfl rfl rfl k aq bh ?_
      intro a0 cm bi bj a1 S
      have ⟨aq,k,o,c,d⟩:=U5 bj aq k o c d
      refine We<|WA.one (i:=9) (bm 12 1023) rfl kr rfl<|Nn<|We ?_
      refine At_ 10 12 2047 rfl (fun _=>(R.fieldB rfl zCg))<|WA.one (i:=11) (bm 12 4095) rfl kr rfl ?_
      refine W.storeSl (α:=Str) (i:=4) [(str ap),(int (wr (aj+ad.2.1))),ak,a0,af,(int a5),(int az),(str ay),ah,(str av)] S a1 rfl rfl rfl lay45 (Nat.le_of_ble_eq_true rfl) rfl ?_
      intro cn S
      refine We<|WA.done kr ?_
      cases oi q
      exact ⟨bi,ak,a0,o,a1,c,d,(S.pk [2,3,4,5])⟩
     refine Lo 0 S<|We ?_
     refine WA.two (i:=2) (j:=7) (bm 12 103) (bm 12 227) rfl rfl kr rfl rfl ?_ ?_
     ·refine Nn<|We ?_
      refine At_ 3 12 111 rfl (fun _=>(R.fieldB rfl zCg)) ?_
      refine WA.two (i:=4) (j:=7) (bm 12 127) (bm 12 239) rfl rfl kr rfl rfl ?_ ?_
      ·refine Lo 3 S<|We<|WA.one (i:=7) (bm 12 255) rfl kr rfl<|W.bslice (α:=Str) [(str aa.1.fValue)] ([aa.1.fValue]:List Str) S el45 rfl rfl rfl (by decide) (Go.Eng.encS ⟨rfl,rfl⟩ enc0) ?_
       intro ci cj ck bg aq S
       have ⟨k,o,c,d⟩:=U4 bg k o c d
       refine We<|WA.one (i:=8) (bm 12 511) rfl kr rfl<|B q fun cl bh q=>W.app (α:=Str) (i:=2) S el45 rfl rfl rfl k aq bh ?_
       intro a0 cm bi bj a1 S
       have ⟨k,aq,o,c,d⟩:=U5 bj k aq o c d
       refine We<|WA.one (i:=9) (bm 12 1023) rfl kr rfl<|Nn<|We ?_
       refine At_ 10 12 2047 rfl (fun _=>(R.fieldB rfl zCg))<|WA.one (i:=11) (bm 12 4095) rfl kr rfl ?_
       refine W.storeSl (α:=Str) (i:=4) [(str ap),(int (wr (aj+ad.2.1))),ak,a0,af,(int a5),(int az),(str ay),ah,(str av)] S a1 rfl rfl rfl lay45 (Nat.le_of_ble_eq_true rfl) rfl ?_
       intro cn S
       refine We<|WA.done kr ?_
       cases oi q
       exact ⟨bi,ak,a0,o,a1,c,d,(S.pk [2,3,4,5])⟩
      refine W.bslice (α:=Str) [(str aa.1.fValue)] ([aa.1.fValue]:List Str) S el45 rfl rfl rfl (by decide) (Go.Eng.encS ⟨rfl,rfl⟩ enc0) ?_
      intro ci cj ck bg aq S
      have ⟨o,k,c,d⟩:=U4 bg o k c d
      refine We<|WA.one (i:=4) (bm 12 255) rfl kr rfl ?_
      refine Lo 4 S<|We<|WA.one (i:=8) (bm 12 511) rfl kr rfl<|B q fun cl bh q=>W.app (α:=Str) (i:=2) S el45 rfl rfl rfl k aq bh ?_
      intro a0 cm bi bj a1 S
      have ⟨aq,k,o,c,d⟩:=U5 bj aq k o c d
      refine We<|WA.one (i:=9) (bm 12 1023) rfl kr rfl<|Nn<|We ?_
      refine At_ 10 12 2047 rfl (fun _=>(R.fieldB rfl zCg))<|WA.one (i:=11) (bm 12 4095) rfl kr rfl ?_
      refine W.storeSl (α:=Str) (i:=4) [(str ap),(int (wr (aj+ad.2.1))),ak,a0,af,(int a5),(int az),(str ay),ah,(str av)] S a1 rfl rfl rfl lay45 (Nat.le_of_ble_eq_true rfl) rfl ?_
      intro cn S
      refine We<|WA.done kr ?_
      cases oi q
      exact ⟨bi,ak,a0,o,a1,c,d,(S.pk [2,3,4,5])⟩
     refine W.bslice (α:=Str) [(str aa.1.fValue)] ([aa.1.fValue]:List Str) S el45 rfl rfl rfl (by decide) (Go.Eng.encS ⟨rfl,rfl⟩ enc0) ?_
     intro ci cj ck bg aq S
     have ⟨o,k,c,d⟩:=U4 bg o k c d
     refine We<|WA.one (i:=2) (bm 12 231) rfl kr rfl<|Nn<|We ?_
     refine At_ 3 12 239 rfl (fun _=>(R.fieldB rfl zCg))<|WA.one (i:=4) (bm 12 255) rfl kr rfl ?_
     refine Lo 4 S<|We<|WA.one (i:=8) (bm 12 511) rfl kr rfl<|B q fun cl bh q=>W.app (α:=Str) (i:=2) S el45 rfl rfl rfl k aq bh ?_
     intro a0 cm bi bj a1 S
     have ⟨k,o,c,d⟩:=U4 bj k o c d
     refine We<|WA.one (i:=9) (bm 12 1023) rfl kr rfl<|Nn<|We ?_
     refine At_ 10 12 2047 rfl (fun _=>(R.fieldB rfl zCg))<|WA.one (i:=11) (bm 12 4095) rfl kr rfl ?_
     refine W.storeSl (α:=Str) (i:=4) [(str ap),(int (wr (aj+ad.2.1))),ak,a0,af,(int a5),(int az),(str ay),ah,(str av)] S a1 rfl rfl rfl lay45 (Nat.le_of_ble_eq_true rfl) rfl ?_
     intro cn S
     refine We<|WA.done kr ?_
     cases oi q
     exact ⟨bi,ak,a0,o,a1,c,d,(S.pk [2,3,4,5])⟩
    refine CF df<|Ws<|Wg<|Fb ?_
    refine Lo 0 S<|B q fun gi et q=>W.call S rfl (zAV S.holds (hG.post S.post) aa.1.fName [84,114,97,110,115,102,101,114,45,69,110,99,111,100,105,110,103] et) ?_
    rintro gj gk gl eu S rfl
    have ⟨o,k,c,d⟩:=U4 eu o k c d
    refine A<|We ?_
    rcases condE q with ⟨dg,q⟩ | ⟨dg,q⟩
    ·refine CT dg ?_
     cases q
    refine CF dg<|WP.draw kr 11 rfl (bm 11 0) rfl ?_
    have S:=S.drew
    refine At_ 0 11 1 rfl (fun _=>(R.mv (v:=ptr b3 0) rfl)) ?_
    refine At_ 1 11 3 rfl (fun _=>(R.mv (v:=ptr b3 0) rfl)) ?_
    refine WA.two (i:=2) (j:=5) (bm 11 7) (bm 11 35) rfl rfl kr rfl rfl ?_ ?_
    ·refine Nn<|We ?_
     refine At_ 3 11 15 rfl (fun _=>(R.fieldB rfl zAo)) ?_
     refine WA.two (i:=4) (j:=5) (bm 11 31) (bm 11 47) rfl rfl kr rfl rfl ?_ ?_
     ·refine Lo 3 S<|We<|WA.one (i:=5) (bm 11 63) rfl kr rfl ?_
      refine WL.w (R.loadBN (i:=0) (vs:=[(str aa.1.fName),(str aa.1.fValue)]) S rfl rfl lay68 rfl rfl)<|We<|WA.one (i:=6) (bm 11 127) rfl kr rfl<|W.bslice (α:=GField) [(agg [(str aa.1.fName),(str aa.1.fValue)])] ([aa.1]:List GField) S el22 rfl rfl rfl (by decide) (Go.Eng.encS ⟨rfl,rfl⟩ enc0) ?_
      intro co cp cq bk ar S
      have ⟨o,k,c,d⟩:=U4 bk o k c d
      refine We<|WA.one (i:=7) (bm 11 255) rfl kr rfl<|B q fun cr bn q=>W.app (α:=GField) (i:=3) S el22 rfl rfl rfl o ar bn ?_
      intro a2 ct bo bp a3 S
      have ⟨o,ar,k,c,d⟩:=U5 bp o ar k c d
      refine We<|WA.one (i:=8) (bm 11 511) rfl kr rfl<|Nn<|We ?_
      refine At_ 9 11 1023 rfl (fun _=>(R.fieldB rfl zAo))<|WA.one (i:=10) (bm 11 2047) rfl kr rfl ?_
      refine W.storeSl (α:=GField) (i:=4) [(str ap),(int (wr (aj+ad.2.1))),a2,al,af,(int a5),(int az),(str ay),ah,(str av)] S a3 rfl rfl rfl lay22 (Nat.le_of_ble_eq_true rfl) rfl ?_
      intro cu S
      refine We<|WA.done kr ?_
      cases oi q
      exact ⟨bo,a2,al,a3,k,c,d,(S.pk [2,3,4,5])⟩
     refine WL.w (R.loadBN (i:=0) (vs:=[(str aa.1.fName),(str aa.1.fValue)]) S rfl rfl lay68 rfl rfl)<|We ?_
     refine WA.two (i:=4) (j:=6) (bm 11 63) (bm 11 111) rfl rfl kr rfl rfl ?_ ?_
     ·refine Lo 3 S<|We<|WA.one (i:=6) (bm 11 127) rfl kr rfl<|W.bslice (α:=GField) [(agg [(str aa.1.fName),(str aa.1.fValue)])] ([aa.1]:List GField) S el22 rfl rfl rfl (by decide) (Go.Eng.encS ⟨rfl,rfl⟩ enc0) ?_
      intro co cp cq bk ar S
      have ⟨o,k,c,d⟩:=U4 bk o k c d
      refine We<|WA.one (i:=7) (bm 11 255) rfl kr rfl<|B q fun cr bn q=>W.app (α:=GField) (i:=3) S el22 rfl rfl rfl o ar bn ?_
      intro a2 ct bo bp a3 S
      have ⟨o,ar,k,c,d⟩:=U5 bp o ar k c d
      refine We<|WA.one (i:=8) (bm 11 511) rfl kr rfl<|Nn<|We ?_
      refine At_ 9 11 1023 rfl (fun _=>(R.fieldB rfl zAo))<|WA.one (i:=10) (bm 11 2047) rfl kr rfl ?_
      refine W.storeSl (α:=GField) (i:=4) [(str ap),(int (wr (aj+ad.2.1))),a2,al,af,(int a5),(int az),(str ay),ah,(str av)] S a3 rfl rfl rfl lay22 (Nat.le_of_ble_eq_true rfl) rfl ?_
      intro cu S
      refine We<|WA.done kr ?_
      cases oi q
      exact ⟨bo,a2,al,a3,k,c,d,(S.pk [2,3,4,5])⟩
     refine W.bslice (α:=GField) [(agg [(str aa.1.fName),(str aa.1.fValue)])] ([aa.1]:List GField) S el22 rfl rfl rfl (by decide) (Go.Eng.encS ⟨rfl,rfl⟩ enc0) ?_
     intro co cp cq bk ar S
     have ⟨o,k,c,d⟩:=U4 bk o k c d
     refine We<|WA.one (i:=4) (bm 11 127) rfl kr rfl ?_
     refine Lo 4 S<|We<|WA.one (i:=7) (bm 11 255) rfl kr rfl<|B q fun cr bn q=>W.app (α:=GField) (i:=3) S el22 rfl rfl rfl o ar bn ?_
     intro a2 ct bo bp a3 S
     have ⟨ar,o,k,c,d⟩:=U5 bp ar o k c d
     refine We<|WA.one (i:=8) (bm 11 511) rfl kr rfl<|Nn<|We ?_
     refine At_ 9 11 1023 rfl (fun _=>(R.fieldB rfl zAo))<|WA.one (i:=10) (bm 11 2047) rfl kr rfl ?_
     refine W.storeSl (α:=GField) (i:=4) [(str ap),(int (wr (aj+ad.2.1))),a2,al,af,(int a5),(int az),(str ay),ah,(str av)] S a3 rfl rfl rfl lay22 (Nat.le_of_ble_eq_true rfl) rfl ?_
     intro cu S
     refine We<|WA.done kr ?_
     cases oi q
     exact ⟨bo,a2,al,a3,k,c,d,(S.pk [2,3,4,5])⟩
    refine WL.w (R.loadBN (i:=0) (vs:=[(str aa.1.fName),(str aa.1.fValue)]) S rfl rfl lay68 rfl rfl)<|We ?_
    refine WA.two (i:=2) (j:=6) (bm 11 39) (bm 11 99) rfl rfl kr rfl rfl ?_ ?_
    ·refine Nn<|We ?_
     refine At_ 3 11 47 rfl (fun _=>(R.fieldB rfl zAo)) ?_
     refine WA.two (i:=4) (j:=6) (bm 11 63) (bm 11 111) rfl rfl kr rfl rfl ?_ ?_
     ·refine Lo 3 S<|We<|WA.one (i:=6) (bm 11 127) rfl kr rfl<|W.bslice (α:=GField) [(agg [(str aa.1.fName),(str aa.1.fValue)])] ([aa.1]:List GField) S el22 rfl rfl rfl (by decide) (Go.Eng.encS ⟨rfl,rfl⟩ enc0) ?_
      intro co cp cq bk ar S
      have ⟨o,k,c,d⟩:=U4 bk o k c d
      refine We<|WA.one (i:=7) (bm 11 255) rfl kr rfl<|B q fun cr bn q=>W.app (α:=GField) (i:=3) S el22 rfl rfl rfl o ar bn ?_
      intro a2 ct bo bp a3 S
      have ⟨o,ar,k,c,d⟩:=U5 bp o ar k c d
      refine We<|WA.one (i:=8) (bm 11 511) rfl kr rfl<|Nn<|We ?_
      refine At_ 9 11 1023 rfl (fun _=>(R.fieldB rfl zAo))<|WA.one (i:=10) (bm 11 2047) rfl kr rfl ?_
      refine W.storeSl (α:=GField) (i:=4) [(str ap),(int (wr (aj+ad.2.1))),a2,al,af,(int a5),(int az),(str ay),ah,(str av)] S a3 rfl rfl rfl lay22 (Nat.le_of_ble_eq_true rfl) rfl ?_
      intro cu S
      refine We<|WA.done kr ?_
      cases oi q
      exact ⟨bo,a2,al,a3,k,c,d,(S.pk [2,3,4,5])⟩
     refine W.bslice (α:=GField) [(agg [(str aa.1.fName),(str aa.1.fValue)])] ([aa.1]:List GField) S el22 rfl rfl rfl (by decide) (Go.Eng.encS ⟨rfl,rfl⟩ enc0) ?_
     intro co cp cq bk ar S
     have ⟨o,k,c,d⟩:=U4 bk o k c d
     refine We<|WA.one (i:=4) (bm 11 127) rfl kr rfl ?_
     refine Lo 4 S<|We<|WA.one (i:=7) (bm 11 255) rfl kr rfl<|B q fun cr bn q=>W.app (α:=GField) (i:=3) S el22 rfl rfl rfl o ar bn ?_
     intro a2 ct bo bp a3 S
     have ⟨ar,o,k,c,d⟩:=U5 bp ar o k c d
     refine We<|WA.one (i:=8) (bm 11 511) rfl kr rfl<|Nn<|We ?_
     refine At_ 9 11 1023 rfl (fun _=>(R.fieldB rfl zAo))<|WA.one (i:=10) (bm 11 2047) rfl kr rfl ?_
     refine W.storeSl (α:=GField) (i:=4) [(str ap),(int (wr (aj+ad.2.1))),a2,al,af,(int a5),(int az),(str ay),ah,(str av)] S a3 rfl rfl rfl lay22 (Nat.le_of_ble_eq_true rfl) rfl ?_
     intro cu S
     refine We<|WA.done kr ?_
     cases oi q
     exact ⟨bo,a2,al,a3,k,c,d,(S.pk [2,3,4,5])⟩
    refine W.bslice (α:=GField) [(agg [(str aa.1.fName),(str aa.1.fValue)])] ([aa.1]:List GField) S el22 rfl rfl rfl (by decide) (Go.Eng.encS ⟨rfl,rfl⟩ enc0) ?_
    intro co cp cq bk ar S
    have ⟨o,k,c,d⟩:=U4 bk o k c d
    refine We<|WA.one (i:=2) (bm 11 103) rfl kr rfl<|Nn<|We ?_
    refine At_ 3 11 111 rfl (fun _=>(R.fieldB rfl zAo))<|WA.one (i:=4) (bm 11 127) rfl kr rfl ?_
    refine Lo 4 S<|We<|WA.one (i:=7) (bm 11 255) rfl kr rfl<|B q fun cr bn q=>W.app (α:=GField) (i:=3) S el22 rfl rfl rfl o ar bn ?_
    intro a2 ct bo bp a3 S
    have ⟨k,c,d⟩:=U3 bp k c d
    refine We<|WA.one (i:=8) (bm 11 511) rfl kr rfl<|Nn<|We ?_
    refine At_ 9 11 1023 rfl (fun _=>(R.fieldB rfl zAo))<|WA.one (i:=10) (bm 11 2047) rfl kr rfl ?_
    refine W.storeSl (α:=GField) (i:=4) [(str ap),(int (wr (aj+ad.2.1))),a2,al,af,(int a5),(int az),(str ay),ah,(str av)] S a3 rfl rfl rfl lay22 (Nat.le_of_ble_eq_true rfl) rfl ?_
    intro cu S
    refine We<|WA.done kr ?_
    cases oi q
    exact ⟨bo,a2,al,a3,k,c,d,(S.pk [2,3,4,5])⟩
   rintro f w ⟨b8,cg,ch,ew,ex,c,d,S⟩
   refine Ws<|Wg<|A<|We ?_
   refine WP.ret (In.one rfl rfl ?_)
   refine A<|We ?_
   obtain rfl:=oi ax
   exact ⟨b8,cg,ch,b6,c7,cx,rfl,ew,ex,c,d,S⟩
  intro f w hM
  rcases dx with ⟨dy,c9,da,dz,d0,d1⟩ | e
  ·obtain ⟨b7,ce,cf,ey,ez,e0,e1,e2,e3,c,d,S⟩:=hM
   refine Ws<|Wg<|M' e1<|Lf<|We ?_
   rcases condE a6 with ⟨dh,a6⟩ | ⟨dh,a6⟩
   ·refine CT dh ?_
    cases a6
   refine CF dh<|Wk<|Wg<|M' e0<|Lg<|A<|We ?_
   obtain rfl:=oi a6
   exact ⟨rfl,⟨b7,ce,cf,af,ah,ey,ez,rfl,e2,e3,c,d,S⟩⟩
  exact hM.elim
 rintro f w ⟨H5,p,a8,ba,bw,h7,z,ae,ai,bb,S⟩
 refine InR.one rfl h7<|A<|We<|Ws<|Wg<|M<|Lf<|We ?_
 rcases condE h with ⟨di,h⟩ | ⟨di,h⟩
 ·refine CT di ?_
  cases h
 refine CF di<|Wk<|Ws<|Ws<|Wg<|M<|Nn<|Fb<|W.inl (args:=[(ptr b3 0)]) rfl (N':=75) Tryz.func113 rfl rfl kr rfl<|Ws<|Wg<|A ?_
 refine We<|Ws<|Ws<|Wg<|M<|Nn<|Fb ?_
 refine Lo 0 S<|Nq ai<|Lc<|M<|B h fun e5 b0 h=>WL.grpw 17 [14,15,16,17,18,19,20,21,22,23,24,25,26,27,28,29] 30 (boo e5) (fun w=>∃ H':Hp,H5.le H'∧St w0 H0 w H' [.box b3 188 [(str m8),(int m9),p,a8,ba,(int u),(int t),(str x),bw,(str b4)],.box b1 24 [(int 0),(int 0),(str []),(.slice none 0 0),(str [])]]) ?_ ?_
 ·rcases boolE (decide (1<(b2.length:Int))) with am | am
  ·replace b0:=condT b0 am
   refine Gn am<|Gn am<|Gn am<|Gn am<|Gn am<|Gn am<|Gn am<|WL.gund rfl rfl<|WL.gund rfl rfl<|WL.gund rfl rfl<|WL.gund rfl rfl<|WL.gund rfl rfl ?_
   refine WL.gund rfl rfl<|WL.gund rfl rfl<|WL.gund rfl rfl<|Gn am<|Pt am ?_
   exact We ⟨(ob b0),ag,⟨H5,lr,S⟩⟩
  replace b0:=condF b0 am
  refine Gy am<|M<|Gy am<|Nn<|Gy am<|Fb<|Gy am ?_
  refine Lo 0 S<|Gy am<|Nq ai<|Gy am<|Le ?_
  refine Gy am<|M<|B b0 fun e6 bu b0=>WL.grpw 9 [21,22,23,24,25,26,27,28] 29 (boo e6) (fun w=>∃ H':Hp,H5.le H'∧St w0 H0 w H' [.box b3 188 [(str m8),(int m9),p,a8,ba,(int u),(int t),(str x),bw,(str b4)],.box b1 24 [(int 0),(int 0),(str []),(.slice none 0 0),(str [])]]) ?_ ?_
  ·rcases boolE ((b2.length:Int)==1) with au | au
   ·replace bu:=condT bu au
    refine Gy au<|M<|Gy au<|Nn<|Gy au<|Fb<|Gy au ?_
    refine Lo 0 S<|Gy au<|B bu fun e7 e8 bu=>W.idx (α:=Str) ai rfl rfl el45 e8 ?_
    rintro gm _ e9 rfl
    refine Gy au ?_
    refine Lq S e9<|Gy au<|B bu fun gn fa bu=>W.call S rfl (zAV S.holds (hG.post S.post) e7 [99,104,117,110,107,101,100] fa) ?_
    rintro go gp fb d4 S rfl
    have ⟨ai,z,ae,bb⟩:=U4 d4 ai z ae bb
    refine Gy au<|No<|Gy am<|Pt au ?_
    exact We ⟨(ob bu),ag,⟨fb,d4,S⟩⟩
   replace bu:=condF bu au
   refine Gn au<|Gn au<|Gn au<|Gn au<|Gn au<|Gn au<|Gn au<|Gn au<|Gy am<|Pf au ?_
   exact We ⟨(ob bu),ag,⟨H5,lr,S⟩⟩
  intro us gq ⟨fc,d5,S⟩
  have ⟨ai,z,ae,bb⟩:=U4 d5 ai z ae bb
  refine Pf am ?_
  exact We ⟨(ob b0),ag,⟨fc,d5,S⟩⟩
 intro us gr ⟨fd,fe,S⟩
 have ⟨ai,z,ae,bb⟩:=U4 fe ai z ae bb
 refine We ?_
 rcases condE h with ⟨dj,h⟩ | ⟨dj,h⟩
 ·refine CT dj ?_
  cases h
 refine CF dj<|Wk<|Ws<|Ws<|Wg<|M<|Nn<|Fb ?_
 refine Lo 0 S<|Nq ae<|Lc<|M ?_
 refine WL.grp 15 [38,39,40,41,42,43,44,45,46,47,48,49,50,51] 52 (boo ((decide (1<(br.length:Int)))||(((br.length:Int)==1)&&((b2.length:Int)==1)))) ?_ ?_
 ·rcases boolE (decide (1<(br.length:Int))) with an | an
  ·refine Gn an<|Gn an<|Gn an<|Gn an<|Gn an<|Gn an<|Gn an<|WL.gund rfl rfl<|WL.gund rfl rfl<|WL.gund rfl rfl<|WL.gund rfl rfl<|WL.gund rfl rfl ?_
   refine WL.gund rfl rfl<|Gn an<|Pt an ?_
   exact We ⟨(orT an),ag,rfl⟩
  refine Gy an<|M<|Gy an<|Nn<|Gy an<|Fb<|Gy an ?_
  refine Lo 0 S<|Gy an<|Nq ae<|Gy an<|Le ?_
  refine Gy an<|M ?_
  refine WL.grp 7 [45,46,47,48,49,50] 51 (boo (((br.length:Int)==1)&&((b2.length:Int)==1))) ?_ ?_
  ·rcases boolE ((br.length:Int)==1) with a4 | a4
   ·refine Gy a4<|M<|Gy a4<|Nn<|Gy a4<|Fb<|Gy a4 ?_
    refine Lo 0 S<|Gy a4<|Nq ai<|Gy a4<|Le ?_
    refine Gy an<|Pt a4 ?_
    exact We ⟨(andT a4),ag,rfl⟩
   refine Gn a4<|Gn a4<|Gn a4<|Gn a4<|Gn a4<|Gn a4<|Gy an<|Pf a4 ?_
   exact We ⟨(andF a4),ag,rfl⟩
  intro us
  refine Pf an ?_
  exact We ⟨(orF an),ag,rfl⟩
 intro us
 refine We ?_
 rcases condE h with ⟨dk,h⟩ | ⟨dk,h⟩
 ·refine CT dk ?_
  cases h
 refine CF dk<|Wk<|Ws<|Ws<|Wg<|M<|Nn<|Fb ?_
 refine Lo 0 S<|Nq ae<|M<|We<|B h fun ff fg h=>WP.cut (fun f w=>∃ (cd:Hp),Sl cd p cz∧Sl cd a8 br∧Sl cd ba b2∧Sl cd bw c0∧St w0 H0 w cd [.box b3 188 [(str m8),(int m9),p,a8,ba,(int u),(int t),(str x),bw,(str b4)],.box b1 24 [(int 0),(int 0),(str []),(.slice none 0 0),(str [])]]) ?_ ?_
 ·refine Wb ?_
  refine WP.loopM (zBj br) (fun s f w=>match s with | d6=>∃ (b9:Hp),f 56=a8∧f 57=(int (br.length:Int))∧f 58=(int d6)∧Sl b9 a8 br∧Sl b9 p cz∧Sl b9 ba b2∧Sl b9 bw c0∧St w0 H0 w b9 [.box b3 188 [(str m8),(int m9),p,a8,ba,(int u),(int t),(str x),bw,(str b4)],.box b1 24 [(int 0),(int 0),(str []),(.slice none 0 0),(str [])]]) 0 ff (lfW fg) ?_ ?_
  ·exact ⟨fd,rfl,rfl,rfl,ae,z,ai,bb,S⟩
  intro d6 f w hI gs bc fh
  obtain ⟨b9,d7,d8,dl,ae,z,ai,bb,S⟩:=hI
  refine Ws<|Wg<|La' dl d8<|We<|Ws ?_
  rcases condE bc with ⟨dm,bc⟩ | ⟨dm,bc⟩
  ·refine CT dm<|Wk<|Ws<|Wb<|Ws<|Wg<|B bc fun d9 fi bc=>W.idx (α:=Str) ae d7 dl el45 fi ?_
   rintro gt _ fj rfl
   refine Lq S fj<|A<|We<|Ws<|Wg<|M<|B bc fun ea fk bc=>W.call S rfl (zA9 S.holds (hG.post S.post) d9 fk) ?_
   rintro gu gv fl fm S rfl
   have ⟨ae,z,ai,bb⟩:=U4 fm ae z ai bb
   refine M ?_
   refine Ex ?_
   refine Ex<|A<|A<|We<|Ws<|Wg<|M<|No<|M ?_
   refine WL.grp 4 [70,71,72] 73 (boo ((!ea.2)||(decide (9<(d9.length:Int))))) ?_ ?_
   ·rcases boolE (!ea.2) with bq | bq
    ·refine Gn bq<|Gn bq<|Gn bq<|Pt bq ?_
     exact We ⟨(orT bq),ag,rfl⟩
    refine Gy bq<|M<|Gy bq<|Ns<|Gy bq<|Lc<|Pf bq ?_
    exact We ⟨(orF bq),ag,rfl⟩
   intro us
   refine We ?_
   rcases condE bc with ⟨dn,bc⟩ | ⟨dn,bc⟩
   ·refine CT dn ?_
    cases bc
   refine CF dn<|Wk<|Wg<|Lg' dl rfl<|M<|We ?_
   obtain rfl:=oi bc
   exact ⟨rfl,⟨fl,d7,d8,rfl,ae,z,ai,bb,S⟩⟩
  refine CF dm<|Wx ?_
  obtain rfl:=oi bc
  obtain rfl:=fh
  exact ⟨b9,z,ae,ai,bb,S⟩
 rintro f w ⟨cd,z,ae,ai,bb,S⟩
 refine Ws<|Wg<|A<|We ?_
 refine WP.ret (In.one rfl rfl ?_)
 refine A<|We<|Ws<|Wg<|M ?_
 refine WL.w (v:=boo false) (R.ofEq (R.neq rfl rfl) rfl)<|We<|WP.condF (b:=false) rfl rfl<|Wk<|Ws<|Wg<|M ?_
 refine M<|Nn<|Fb<|Fb ?_
 refine Lo 0 S<|Nn<|Fb<|Fb ?_
 refine W.storeSl (α:=GField) (i:=0) [(str m8),(int m9),p,a8,ba,(int u),(int t),(str x),p,(str b4)] S z rfl rfl rfl lay22 (Nat.le_of_ble_eq_true rfl) rfl ?_
 intro gw S
 refine We<|Ws<|Wg<|A<|We<|Ws<|Wb<|Ws<|Wg<|M<|Nn<|Fb ?_
 refine Fb ?_
 refine Lo 0 S<|M<|B h fun gx fn h=>W.call S rfl (zCq S.holds (hG.post S.post) t cy fn) ?_
 rintro gy gz g0 fo S rfl
 have ⟨z,ae,ai⟩:=U3 fo z ae ai
 refine A<|We ?_
 rcases condE h with ⟨dp,h⟩ | ⟨dp,h⟩
 ·refine CT dp ?_
  cases h
 refine CF dp<|Ws<|WP.quiet S kr kr<|QM<|QNn<|QFb<|QFb ?_
 refine QB 0 ba<|QNq ai<|QM<|QNn<|QFb ?_
 refine QFb ?_
 refine QB 0 a8<|QNq ae<|QLg<|QLc<|QA<|WQ.nil ?_
 intro g1 g2 fp S
 have ⟨z,ai,ae⟩:=U3 fp z ai ae
 rcases condE h with ⟨dq,h⟩ | ⟨dq,h⟩
 ·refine CT dq<|Wg<|M<|M<|Nn<|Fb<|W.inl (args:=[(ptr b3 0)]) rfl (N':=76) Tryz.func115 rfl rfl kr rfl<|Ws<|Wg<|A<|A<|We ?_
  refine Ws<|WP.quiet S kr kr<|QM<|QNn<|QFb ?_
  refine QB 0 (str m8)<|QM<|QNn<|QFb ?_
  refine QB 0 (int m9)<|B h fun g3 fq h=>QJc fq<|QA<|WQ.nil ?_
  intro g4 g5 fr S
  have ⟨z,ae,ai⟩:=U3 fr z ae ai
  refine Ws<|Wb<|Ws<|Wg<|M<|Nn<|Fb ?_
  refine Lo 0 S<|Nq ai<|Lc<|A<|We ?_
  rcases condE h with ⟨dr,h⟩ | ⟨dr,h⟩
  ·refine CT dr ?_
   cases h
  refine CF dr<|Ws<|Wg<|M<|Nn<|Fb ?_
  refine Lo 0 S<|Nq ae<|Lc<|A<|We ?_
  rcases condE h with ⟨ds,h⟩ | ⟨ds,h⟩
  ·refine CT ds<|Ws<|Wg<|M<|Nn<|Fb ?_
   refine Lo 0 S<|B h fun fs ft h=>W.idx (α:=Str) ae rfl rfl el45 ft ?_
   rintro g6 _ fu rfl
   refine Lq S fu<|B h fun bf fv h=>W.call S rfl (zA9 S.holds (hG.post S.post) fs fv) ?_
   rintro g7 g8 g9 fw S rfl
   have z:=z.up fw
   refine M ?_
   refine Ex ?_
   refine Ex<|A<|A<|We<|Ws<|Ws<|Wg<|M<|Lc<|We ?_
   rcases condE h with ⟨dt,h⟩ | ⟨dt,h⟩
   ·refine CT dt ?_
    cases h
   refine CF dt<|Wk<|Ws<|Ws<|Wg<|M<|M<|Ns<|Lc<|We ?_
   rcases condE h with ⟨du,h⟩ | ⟨du,h⟩
   ·refine CT du ?_
    cases h
   refine CF du<|Wk<|Ws<|Wg<|M<|Nn<|Fb ?_
   refine Lo 0 S<|M<|Lg<|Nn<|Fb ?_
   refine W.store (i:=0) [(str m8),(int (wr (m9+bf.1))),p,a8,ba,(int u),(int t),(str x),p,(str b4)] S rfl rfl rfl lay3 rfl rfl (Nat.le_of_ble_eq_true rfl) rfl ?_
   intro ha S
   refine We<|Ws<|Wg<|M<|M<|B h fun ab fx h=>Jd fx<|A<|A<|We ?_
   refine WP.ret (In.two rfl rfl rfl ?_)
   refine M ?_
   refine Ex ?_
   refine Ex<|Nn<|Fb<|Fb ?_
   refine W.store (i:=0) [(str m8),(int (wr (m9+bf.1))),p,a8,ba,(int u),(int t),(str x),p,(str ab)] S rfl rfl rfl lay9 rfl rfl (Nat.le_of_ble_eq_true rfl) rfl ?_
   intro hb S
   refine A<|We<|Ws<|Ws<|Wg<|M ?_
   refine WL.w (v:=boo false) (R.ofEq (R.neq rfl rfl) rfl)<|We<|WP.condF (b:=false) rfl rfl<|Wk<|Ws<|WP.draw kr 12 rfl (bm 12 0) rfl ?_
   have S:=S.drew
   refine At_ 0 12 1 rfl (fun _=>(R.mv (v:=ptr b3 0) rfl)) ?_
   refine At_ 4 12 17 rfl (fun _=>(R.mv (v:=ptr b3 0) rfl)) ?_
   refine WA.two (i:=1) (j:=5) (bm 12 19) (bm 12 49) rfl rfl kr rfl rfl ?_ ?_
   ·refine Nn<|We ?_
    refine At_ 2 12 23 rfl (fun _=>(R.fieldB rfl zGu)) ?_
    refine WA.two (i:=3) (j:=5) (bm 12 31) (bm 12 55) rfl rfl kr rfl rfl ?_ ?_
    ·refine WL.w (R.loadBN (i:=0) (vs:=[(int u),(int t),(str x),p,(str ab)]) S rfl rfl lay24 rfl rfl)<|We ?_
     refine WA.two (i:=5) (j:=9) (bm 12 63) (bm 12 543) rfl rfl kr rfl rfl ?_ ?_
     ·refine Nn<|We ?_
      refine At_ 6 12 127 rfl (fun _=>(R.fieldB rfl zGN)) ?_
      refine At_ 7 12 255 rfl (fun _=>(R.fieldB rfl zDE)) ?_
      refine WA.two (i:=8) (j:=9) (bm 12 511) (bm 12 767) rfl rfl kr rfl rfl ?_ ?_
      ·refine Lo 0 S<|We<|WA.one (i:=9) (bm 12 1023) rfl kr rfl ?_
       refine W.store (i:=1) [(int u),(int t),(str x),p,(str ab)] S rfl rfl rfl lay24 rfl (AllOne.all (l:=[(int u),(int t),(str x),p,(str ab)]) (.cons rfl (.cons rfl (.cons rfl (.cons (Sl.oneC z) (.cons rfl .nil)))))) (Nat.le_of_ble_eq_true rfl) rfl ?_
       intro bz S
       refine We ?_
       refine At_ 10 12 2047 rfl (fun _=>(R.as (v:=int (wr (m9+bf.1))) rfl)) ?_
       refine At_ 11 12 4095 rfl (fun _=>(R.as (v:=int 0) rfl))<|WA.done kr ?_
       obtain rfl:=oi h
       refine WP.ret (Out.three rfl S (Res.cellB (i:=1) (cs:=[(int u),(int t),(str x),p,(str ab)]) S rfl rfl lay24 rfl rfl) rfl rfl ?_)
       exact ⟨_,rfl,z⟩
      refine W.store (i:=1) [(int u),(int t),(str x),p,(str ab)] S rfl rfl rfl lay24 rfl (AllOne.all (l:=[(int u),(int t),(str x),p,(str ab)]) (.cons rfl (.cons rfl (.cons rfl (.cons (Sl.oneC z) (.cons rfl .nil)))))) (Nat.le_of_ble_eq_true rfl) rfl ?_
      intro bz S
      refine We<|WA.one (i:=8) (bm 12 1023) rfl kr rfl ?_
      refine Lo 0 S<|We ?_
      refine At_ 10 12 2047 rfl (fun _=>(R.as (v:=int (wr (m9+bf.1))) rfl)) ?_
      refine At_ 11 12 4095 rfl (fun _=>(R.as (v:=int 0) rfl))<|WA.done kr ?_
      obtain rfl:=oi h
      refine WP.ret (Out.three rfl S (Res.cellB (i:=1) (cs:=[(int u),(int t),(str x),p,(str ab)]) S rfl rfl lay24 rfl rfl) rfl rfl ?_)
      exact ⟨_,rfl,z⟩
     refine W.store (i:=1) [(int u),(int t),(str x),p,(str ab)] S rfl rfl rfl lay24 rfl (AllOne.all (l:=[(int u),(int t),(str x),p,(str ab)]) (.cons rfl (.cons rfl (.cons rfl (.cons (Sl.oneC z) (.cons rfl .nil)))))) (Nat.le_of_ble_eq_true rfl) rfl ?_
     intro bz S
     refine We<|WA.one (i:=5) (bm 12 575) rfl kr rfl<|Nn<|We ?_
     refine At_ 6 12 639 rfl (fun _=>(R.fieldB rfl zGN)) ?_
     refine At_ 7 12 767 rfl (fun _=>(R.fieldB rfl zDE))<|WA.one (i:=8) (bm 12 1023) rfl kr rfl ?_
     refine Lo 0 S<|We ?_
     refine At_ 10 12 2047 rfl (fun _=>(R.as (v:=int (wr (m9+bf.1))) rfl)) ?_
     refine At_ 11 12 4095 rfl (fun _=>(R.as (v:=int 0) rfl))<|WA.done kr ?_
     obtain rfl:=oi h
     refine WP.ret (Out.three rfl S (Res.cellB (i:=1) (cs:=[(int u),(int t),(str x),p,(str ab)]) S rfl rfl lay24 rfl rfl) rfl rfl ?_)
     exact ⟨_,rfl,z⟩
    refine Nn<|We ?_
    refine At_ 6 12 119 rfl (fun _=>(R.fieldB rfl zGN)) ?_
    refine At_ 7 12 247 rfl (fun _=>(R.fieldB rfl zDE)) ?_
    refine WA.two (i:=3) (j:=8) (bm 12 255) (bm 12 503) rfl rfl kr rfl rfl ?_ ?_
    ·refine WL.w (R.loadBN (i:=0) (vs:=[(int u),(int t),(str x),p,(str ab)]) S rfl rfl lay24 rfl rfl)<|We ?_
     refine WA.two (i:=8) (j:=9) (bm 12 511) (bm 12 767) rfl rfl kr rfl rfl ?_ ?_
     ·refine Lo 0 S<|We<|WA.one (i:=9) (bm 12 1023) rfl kr rfl ?_
      refine W.store (i:=1) [(int u),(int t),(str x),p,(str ab)] S rfl rfl rfl lay24 rfl (AllOne.all (l:=[(int u),(int t),(str x),p,(str ab)]) (.cons rfl (.cons rfl (.cons rfl (.cons (Sl.oneC z) (.cons rfl .nil)))))) (Nat.le_of_ble_eq_true rfl) rfl ?_
      intro bz S
      refine We ?_
      refine At_ 10 12 2047 rfl (fun _=>(R.as (v:=int (wr (m9+bf.1))) rfl)) ?_
      refine At_ 11 12 4095 rfl (fun _=>(R.as (v:=int 0) rfl))<|WA.done kr ?_
      obtain rfl:=oi h
      refine WP.ret (Out.three rfl S (Res.cellB (i:=1) (cs:=[(int u),(int t),(str x),p,(str ab)]) S rfl rfl lay24 rfl rfl) rfl rfl ?_)
      exact ⟨_,rfl,z⟩
     refine W.store (i:=1) [(int u),(int t),(str x),p,(str ab)] S rfl rfl rfl lay24 rfl (AllOne.all (l:=[(int u),(int t),(str x),p,(str ab)]) (.cons rfl (.cons rfl (.cons rfl (.cons (Sl.oneC z) (.cons rfl .nil)))))) (Nat.le_of_ble_eq_true rfl) rfl ?_
     intro bz S
     refine We<|WA.one (i:=8) (bm 12 1023) rfl kr rfl ?_
     refine Lo 0 S<|We ?_
     refine At_ 10 12 2047 rfl (fun _=>(R.as (v:=int (wr (m9+bf.1))) rfl)) ?_
     refine At_ 11 12 4095 rfl (fun _=>(R.as (v:=int 0) rfl))<|WA.done kr ?_
     obtain rfl:=oi h
     refine WP.ret (Out.three rfl S (Res.cellB (i:=1) (cs:=[(int u),(int t),(str x),p,(str ab)]) S rfl rfl lay24 rfl rfl) rfl rfl ?_)
     exact ⟨_,rfl,z⟩
    refine Lo 0 S<|We<|WA.one (i:=3) (bm 12 511) rfl kr rfl ?_
    refine WL.w (R.loadBN (i:=0) (vs:=[(int u),(int t),(str x),p,(str ab)]) S rfl rfl lay24 rfl rfl)<|We<|WA.one (i:=9) (bm 12 1023) rfl kr rfl ?_
    refine W.store (i:=1) [(int u),(int t),(str x),p,(str ab)] S rfl rfl rfl lay24 rfl (AllOne.all (l:=[(int u),(int t),(str x),p,(str ab)]) (.cons rfl (.cons rfl (.cons rfl (.cons (Sl.oneC z) (.cons rfl .nil)))))) (Nat.le_of_ble_eq_true rfl) rfl ?_
    intro bz S
    refine We ?_
    refine At_ 10 12 2047 rfl (fun _=>(R.as (v:=int (wr (m9+bf.1))) rfl)) ?_
    refine At_ 11 12 4095 rfl (fun _=>(R.as (v:=int 0) rfl))<|WA.done kr ?_
    obtain rfl:=oi h
    refine WP.ret (Out.three rfl S (Res.cellB (i:=1) (cs:=[(int u),(int t),(str x),p,(str ab)]) S rfl rfl lay24 rfl rfl) rfl rfl ?_)
    exact ⟨_,rfl,z⟩
   refine Nn<|We ?_
   refine At_ 6 12 113 rfl (fun _=>(R.fieldB rfl zGN)) ?_
   refine At_ 7 12 241 rfl (fun _=>(R.fieldB rfl zDE)) ?_
   refine WA.two (i:=1) (j:=8) (bm 12 243) (bm 12 497) rfl rfl kr rfl rfl ?_ ?_
   ·refine Nn<|We ?_
    refine At_ 2 12 247 rfl (fun _=>(R.fieldB rfl zGu)) ?_
    refine WA.two (i:=3) (j:=8) (bm 12 255) (bm 12 503) rfl rfl kr rfl rfl ?_ ?_
    ·refine WL.w (R.loadBN (i:=0) (vs:=[(int u),(int t),(str x),p,(str ab)]) S rfl rfl lay24 rfl rfl)<|We ?_
     refine WA.two (i:=8) (j:=9) (bm 12 511) (bm 12 767) rfl rfl kr rfl rfl ?_ ?_
     ·refine Lo 0 S<|We<|WA.one (i:=9) (bm 12 1023) rfl kr rfl ?_
      refine W.store (i:=1) [(int u),(int t),(str x),p,(str ab)] S rfl rfl rfl lay24 rfl (AllOne.all (l:=[(int u),(int t),(str x),p,(str ab)]) (.cons rfl (.cons rfl (.cons rfl (.cons (Sl.oneC z) (.cons rfl .nil)))))) (Nat.le_of_ble_eq_true rfl) rfl ?_
      intro bz S
      refine We ?_
      refine At_ 10 12 2047 rfl (fun _=>(R.as (v:=int (wr (m9+bf.1))) rfl)) ?_
      refine At_ 11 12 4095 rfl (fun _=>(R.as (v:=int 0) rfl))<|WA.done kr ?_
      obtain rfl:=oi h
      refine WP.ret (Out.three rfl S (Res.cellB (i:=1) (cs:=[(int u),(int t),(str x),p,(str ab)]) S rfl rfl lay24 rfl rfl) rfl rfl ?_)
      exact ⟨_,rfl,z⟩
     refine W.store (i:=1) [(int u),(int t),(str x),p,(str ab)] S rfl rfl rfl lay24 rfl (AllOne.all (l:=[(int u),(int t),(str x),p,(str ab)]) (.cons rfl (.cons rfl (.cons rfl (.cons (Sl.oneC z) (.cons rfl .nil)))))) (Nat.le_of_ble_eq_true rfl) rfl ?_
     intro bz S
     refine We<|WA.one (i:=8) (bm 12 1023) rfl kr rfl ?_
     refine Lo 0 S<|We ?_
     refine At_ 10 12 2047 rfl (fun _=>(R.as (v:=int (wr (m9+bf.1))) rfl)) ?_
     refine At_ 11 12 4095 rfl (fun _=>(R.as (v:=int 0) rfl))<|WA.done kr ?_
     obtain rfl:=oi h
     refine WP.ret (Out.three rfl S (Res.cellB (i:=1) (cs:=[(int u),(int t),(str x),p,(str ab)]) S rfl rfl lay24 rfl rfl) rfl rfl ?_)
     exact ⟨_,rfl,z⟩
    refine Lo 0 S<|We<|WA.one (i:=3) (bm 12 511) rfl kr rfl ?_
    refine WL.w (R.loadBN (i:=0) (vs:=[(int u),(int t),(str x),p,(str ab)]) S rfl rfl lay24 rfl rfl)<|We<|WA.one (i:=9) (bm 12 1023) rfl kr rfl ?_
    refine W.store (i:=1) [(int u),(int t),(str x),p,(str ab)] S rfl rfl rfl lay24 rfl (AllOne.all (l:=[(int u),(int t),(str x),p,(str ab)]) (.cons rfl (.cons rfl (.cons rfl (.cons (Sl.oneC z) (.cons rfl .nil)))))) (Nat.le_of_ble_eq_true rfl) rfl ?_
    intro bz S
    refine We ?_
    refine At_ 10 12 2047 rfl (fun _=>(R.as (v:=int (wr (m9+bf.1))) rfl)) ?_
    refine At_ 11 12 4095 rfl (fun _=>(R.as (v:=int 0) rfl))<|WA.done kr ?_
    obtain rfl:=oi h
    refine WP.ret (Out.three rfl S (Res.cellB (i:=1) (cs:=[(int u),(int t),(str x),p,(str ab)]) S rfl rfl lay24 rfl rfl) rfl rfl ?_)
    exact ⟨_,rfl,z⟩
   refine Lo 0 S<|We<|WA.one (i:=1) (bm 12 499) rfl kr rfl<|Nn<|We ?_
   refine At_ 2 12 503 rfl (fun _=>(R.fieldB rfl zGu))<|WA.one (i:=3) (bm 12 511) rfl kr rfl ?_
   refine WL.w (R.loadBN (i:=0) (vs:=[(int u),(int t),(str x),p,(str ab)]) S rfl rfl lay24 rfl rfl)<|We<|WA.one (i:=9) (bm 12 1023) rfl kr rfl ?_
   refine W.store (i:=1) [(int u),(int t),(str x),p,(str ab)] S rfl rfl rfl lay24 rfl (AllOne.all (l:=[(int u),(int t),(str x),p,(str ab)]) (.cons rfl (.cons rfl (.cons rfl (.cons (Sl.oneC z) (.cons rfl .nil)))))) (Nat.le_of_ble_eq_true rfl) rfl ?_
   intro bz S
   refine We ?_
   refine At_ 10 12 2047 rfl (fun _=>(R.as (v:=int (wr (m9+bf.1))) rfl)) ?_
   refine At_ 11 12 4095 rfl (fun _=>(R.as (v:=int 0) rfl))<|WA.done kr ?_
   obtain rfl:=oi h
   refine WP.ret (Out.three rfl S (Res.cellB (i:=1) (cs:=[(int u),(int t),(str x),p,(str ab)]) S rfl rfl lay24 rfl rfl) rfl rfl ?_)
   exact ⟨_,rfl,z⟩
  refine CF ds ?_
  cases h
 refine CF dq ?_
 cases h
end Go.Proofs

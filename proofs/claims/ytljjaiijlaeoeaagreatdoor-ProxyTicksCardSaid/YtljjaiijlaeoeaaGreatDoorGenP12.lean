/- A part of the proof of laws of the seat: written by program over the translation. -/
import Derived.Test.YtljjaiijlaeoeaaGreatDoorEng38
import Derived.Test.YtljjaiijlaeoeaaGreatDoorEng36
import Derived.Test.YtljjaiijlaeoeaaGreatDoorGenP11
namespace Go.Proofs
set_option maxHeartbeats 4000000
set_option maxRecDepth 10000
open Go.Eng Go.Eng.Pure
set_option linter.unusedVariables false
theorem zGj {w0:World} {H0:Hp} (hw:Holds w0 H0) (hG:Tryz.Gl w0) (bh:Str) (c7:Str) (d7:Bool) {r:(GResponse×Int×Int)} (h:zBM bh c7 d7=some r) :
  Con Tryz.prog 58 [(str bh),(str c7),(boo d7)] w0 H0 (fun H' v=>∃ u1:Value,v=(.tuple ⟨[(agg [(int r.1.fMinor),(int r.1.fStatus),(str r.1.fReason),u1,(str r.1.fBody)]),(int r.2.1),(int r.2.2)]⟩)∧Sl (α:=GField) H' u1 r.1.fFields):=by
 refine Con.mk (N:=121) Tryz.func58 rfl rfl kr rfl ?_
 have S:=St.start hw
 refine Ws<|Wg ?_
 refine W.alloc [(int 0),(int 0),(str []),(.slice none 0 0),(str [])] S zer24 ?_
 intro b1 w2 S
 refine A<|A<|We<|Ws<|Wg<|M ?_
 refine WL.w (R.build [(0,(str bh))] [(str bh),(int 0),(.slice none 0 0),(.slice none 0 0),(.slice none 0 0)] bp186 zMk rfl rfl) ?_
 refine WL.w (R.build [(0,(agg [(str bh),(int 0),(.slice none 0 0),(.slice none 0 0),(.slice none 0 0)]))] [(str bh),(int 0),(.slice none 0 0),(.slice none 0 0),(.slice none 0 0),(int 0),(int 0),(str []),(.slice none 0 0),(str [])] bp188 zNG rfl rfl) ?_
 refine W.box [(str bh),(int 0),(.slice none 0 0),(.slice none 0 0),(.slice none 0 0),(int 0),(int 0),(str []),(.slice none 0 0),(str [])] S rfl rfl ?_
 intro b3 w4 S
 refine A<|We<|Ws<|Ws<|Wg<|M<|Nn<|Fb<|M ?_
 refine WL.w (R.mkFuncB (bs:=[(ptr b3 0)]) (vs:=[]) rfl rfl) ?_
 obtain ⟨⟨el,m8,m9,c8,br,b2,u,t,x,c9,b4⟩,da,h⟩:=bindE h
 refine W.inl (args:=[(ptr b3 0),(.func (.func 112) [(ptr b3 0)].toArray [].toArray)]) rfl (N':=65) Tryz.func111 rfl rfl kr rfl (WP.inC (fun f w=>∃ (H5:Hp) (p:Value) (bc:Value) (be:Value) (bw:Value),f 4=(int el)∧Sl (α:=GField) H5 p c8∧Sl (α:=Str) H5 bc br∧Sl (α:=Str) H5 be b2∧Sl (α:=GField) H5 bw c9∧St w0 H0 w H5 [.box b3 188 [(str m8),(int m9),p,bc,be,(int u),(int t),(str x),bw,(str b4)],.box b1 24 [(int 0),(int 0),(str []),(.slice none 0 0),(str [])]]) ?_ ?_)
 ·refine Ws<|Wg<|A<|We<|Ws<|Wg<|A<|We ?_
  obtain ⟨b5,db⟩:∃ v:Value,v=.slice none 0 0:=⟨_,rfl⟩
  have em:Sl (α:=GField) H0 b5 []:=by rw [db]; exact Sl.nil
  replace S:=(show ∀ {w:World},St w0 H0 w H0 [.box b3 188 [(str bh),(int 0),(.slice none 0 0),(.slice none 0 0),(.slice none 0 0),(int 0),(int 0),(str []),(.slice none 0 0),(str [])],.box b1 24 [(int 0),(int 0),(str []),(.slice none 0 0),(str [])]]→St w0 H0 w H0 [.box b3 188 [(str bh),(int 0),b5,(.slice none 0 0),(.slice none 0 0),(int 0),(int 0),(str []),(.slice none 0 0),(str [])],.box b1 24 [(int 0),(int 0),(str []),(.slice none 0 0),(str [])]] from fun S=>by rw [db]; exact S) S
  replace S:=St.addNilV db S 68 2
  obtain ⟨dc,dd⟩:∃ v:Value,v=.slice none 0 0:=⟨_,rfl⟩
  have en:Sl (α:=Str) H0 dc []:=by rw [dd]; exact Sl.nil
  replace S:=(show ∀ {w:World},St w0 H0 w H0 [.row b5 68 2 ([]:List GField).length,.box b3 188 [(str bh),(int 0),b5,(.slice none 0 0),(.slice none 0 0),(int 0),(int 0),(str []),(.slice none 0 0),(str [])],.box b1 24 [(int 0),(int 0),(str []),(.slice none 0 0),(str [])]]→St w0 H0 w H0 [.row b5 68 2 ([]:List GField).length,.box b3 188 [(str bh),(int 0),b5,dc,(.slice none 0 0),(int 0),(int 0),(str []),(.slice none 0 0),(str [])],.box b1 24 [(int 0),(int 0),(str []),(.slice none 0 0),(str [])]] from fun S=>by rw [dd]; exact S) S
  replace S:=St.addNilV dd S 9 1
  refine B da fun eo ep da=>WP.cut (fun _ _=>False) ?_ (fun _ _ h=>h.elim)
  refine Wb ?_
  refine WP.loopM (zAy) (fun s f w=>match s with | (ca,av,an,de,df,cx,a9,a3,a2,cy,az)=>∃ (cb:Hp) (ao:Value) (ap:Value) (ak:Value) (al:Value),f 0=(ptr b3 0)∧f 1=(.func (.func 112) [(ptr b3 0)].toArray [].toArray)∧f 5=(int ca)∧Sl (α:=GField) cb ao de∧Sl (α:=Str) cb ap df∧Sl (α:=Str) cb ak cx∧Sl (α:=GField) cb al cy∧St w0 H0 w cb [.row ap 9 1 df.length,.row ao 68 2 de.length,.box b3 188 [(str av),(int an),ao,ap,ak,(int a9),(int a3),(str a2),al,(str az)],.box b1 24 [(int 0),(int 0),(str []),(.slice none 0 0),(str [])]]) (0,bh,0,([]:List GField),([]:List Str),([]:List Str),0,0,[],([]:List GField),[]) eo (lfW ep) ?_ ?_
  ·exact ⟨H0,b5,dc,.slice none 0 0,.slice none 0 0,rfl,rfl,rfl,em,en,Sl.nil,Sl.nil,S⟩
  intro s f w hI f0 ba eq
  obtain ⟨ca,av,an,de,df,cx,a9,a3,a2,cy,az⟩:=s
  obtain ⟨cb,ao,ap,ak,al,b6,dg,cz,o,k,c,d,S⟩:=hI
  refine Ws<|Wb<|Ws<|WP.quiet S kr kr<|QM' b6<|QNn<|QFb ?_
  refine WQ.val (fun w hw=>by obtain ⟨_,hq,S⟩:=hw; exact (R.loadB (i:=2) (v:=str av) S rfl rfl lay9 rfl))<|QM' b6<|QNn<|QFb ?_
  refine WQ.val (fun w hw=>by obtain ⟨_,hq,S⟩:=hw; exact (R.loadB (i:=2) (v:=int an) S rfl rfl lay3 rfl))<|B ba fun er es ba=>QJc es<|B ba fun af et ba=>WQ.call (v:=.tuple ⟨[(str af.1),(int af.2.1),(int af.2.2)]⟩) rfl (fun w H' hq S=>zHy S.holds (hG.post S.post) er et)<|QM ?_
  refine QEx ?_
  refine QEx ?_
  refine QEx<|QA<|QA<|QA<|WQ.nil ?_
  intro f1 eu c0 S
  have o:=Sl.mono o c0
  have k:=Sl.mono k c0
  have c:=Sl.mono c c0
  have d:=Sl.mono d c0
  refine Ws<|Ws<|Wg<|M<|Lf<|We ?_
  rcases condE ba with ⟨dh,ba⟩ | ⟨dh,ba⟩
  ·refine CT dh ?_
   cases ba
  refine CF dh<|Wk<|Ws<|Wg<|M' b6<|Nn<|Fb ?_
  refine Lo 2 S<|M<|Lg<|Nn<|Fb ?_
  refine W.store (i:=2) [(str av),(int (wr (an+af.2.1))),ao,ap,ak,(int a9),(int a3),(str a2),al,(str az)] S rfl rfl rfl lay3 rfl rfl (Nat.le_of_ble_eq_true rfl) rfl ?_
  intro f2 S
  refine We<|Ws<|B ba fun d9 a1 ba=>WP.cut (fun f w=>match d9 with | .inl (ea,di,dj,eb,ec,ed)=>∃ (b7:Hp) (ce:Value) (cf:Value),f 0=(ptr b3 0)∧f 1=(.func (.func 112) [(ptr b3 0)].toArray [].toArray)∧f 5=(int ca)∧f 8=(int ea)∧Sl (α:=GField) b7 ce di∧Sl (α:=Str) b7 cf dj∧Sl (α:=Str) b7 ak cx∧Sl (α:=GField) b7 al cy∧St w0 H0 w b7 [.row cf 9 1 dj.length,.row ce 68 2 di.length,.box b3 188 [(str av),(int (wr (an+af.2.1))),ce,cf,ak,(int eb),(int ec),(str ed),al,(str az)],.box b1 24 [(int 0),(int 0),(str []),(.slice none 0 0),(str [])]] | .inr _=>False) ?_ ?_
  ·refine Wb<|Ws<|Wg<|M' b6<|Nn<|Fb ?_
   refine Lo 2 S<|Lc<|M ?_
   refine WL.grp 7 [46,47,48,49,50,51] 52 (boo ((decide (16000<(wr (an+af.2.1))))||((decide (64<ca))&&(af.1 !=[])))) ?_ ?_
   ·rcases boolE (decide (16000<(wr (an+af.2.1)))) with bd | bd
    ·refine Gn bd<|Gn bd<|Gn bd<|WL.gund rfl rfl<|WL.gund rfl rfl<|Gn bd<|Pt bd ?_
     exact We ⟨(orT bd),ag,rfl⟩
    refine Gy bd<|M' cz<|Gy bd<|Lc<|Gy bd<|M ?_
    refine WL.grp 3 [49,50] 51 (boo ((decide (64<ca))&&(af.1 !=[]))) ?_ ?_
    ·rcases boolE (decide (64<ca)) with bx | bx
     ·refine Gy bx<|M<|Gy bx<|Nb<|Gy bd<|Pt bx ?_
      exact We ⟨(andT bx),ag,rfl⟩
     refine Gn bx<|Gn bx<|Gy bd<|Pf bx ?_
     exact We ⟨(andF bx),ag,rfl⟩
    intro us
    refine Pf bd ?_
    exact We ⟨(orF bd),ag,rfl⟩
   intro us
   refine A<|We ?_
   rcases condE a1 with ⟨dk,a1⟩ | ⟨dk,a1⟩
   ·refine CT dk ?_
    cases a1
   refine CF dk<|Ws<|Wg<|M' cz<|Le<|A<|We ?_
   rcases condE a1 with ⟨dl,a1⟩ | ⟨dl,a1⟩
   ·refine CT dl<|Wg<|M' dg<|M<|W.inlv (vs:=[(str af.1)]) (bs:=[(ptr b3 0)]) (cs:=[]) rfl rfl (N':=25) Tryz.func112 rfl rfl kr rfl<|Ws<|Wg<|A<|We<|Ws<|Wg<|M ?_
    refine M<|M<|M<|B a1 fun cc ew a1=>W.call S rfl (zDi S.holds (hG.post S.post) af.1 ew) ?_
    rintro f3 f4 ex c1 S rfl
    have o:=Sl.mono o c1
    have k:=Sl.mono k c1
    have c:=Sl.mono c c1
    have d:=Sl.mono d c1
    refine M ?_
    refine Ex ?_
    refine Ex ?_
    refine Ex ?_
    refine Ex<|Nn<|Fb<|Fb ?_
    refine W.store (i:=2) [(str av),(int (wr (an+af.2.1))),ao,ap,ak,(int cc.1),(int a3),(str a2),al,(str az)] S rfl rfl rfl lay3 rfl rfl (Nat.le_of_ble_eq_true rfl) rfl ?_
    intro f5 S
    refine Nn<|Fb<|Fb ?_
    refine W.store (i:=2) [(str av),(int (wr (an+af.2.1))),ao,ap,ak,(int cc.1),(int cc.2.1),(str a2),al,(str az)] S rfl rfl rfl lay3 rfl rfl (Nat.le_of_ble_eq_true rfl) rfl ?_
    intro f6 S
    refine Nn<|Fb<|Fb ?_
    refine W.store (i:=2) [(str av),(int (wr (an+af.2.1))),ao,ap,ak,(int cc.1),(int cc.2.1),(str cc.2.2.1),al,(str az)] S rfl rfl rfl lay9 rfl rfl (Nat.le_of_ble_eq_true rfl) rfl ?_
    intro f7 S
    refine A<|We<|Ws<|Wg<|M<|A<|We ?_
    refine WP.ret (In.one rfl rfl ?_)
    refine A<|We ?_
    obtain rfl:=oi a1
    exact ⟨ex,ao,ap,b6,dg,cz,rfl,o,k,c,d,S⟩
   refine CF dl<|Ws<|Wg<|M<|Na<|A<|We ?_
   rcases condE a1 with ⟨dm,a1⟩ | ⟨dm,a1⟩
   ·refine CT dm<|Ws<|Wg<|A<|We ?_
    obtain rfl:=oi a1
    obtain rfl:=oi ba
    obtain rfl:=eq
    cases oi da
    refine WP.ret ?_
    exact ⟨.inl rfl,⟨eu,ao,ap,ak,al,rfl,o,k,c,d,(S.drop _ (.cons _ (.cons _ (.cons_cons _ (.cons_cons _ .slnil)))))⟩⟩
   refine CF dm<|Wg<|M' b6<|M<|W.inl (args:=[(ptr b3 0),(str af.1)]) rfl (N':=56) Tryz.func177 rfl rfl kr rfl<|Ws<|Wg<|A<|We<|Ws<|Wg<|M<|B a1 fun aa ey a1=>W.call S rfl (zFt S.holds (hG.post S.post) af.1 ey) ?_
   rintro f8 f9 ga c2 S rfl
   have o:=Sl.mono o c2
   have k:=Sl.mono k c2
   have c:=Sl.mono c c2
   have d:=Sl.mono d c2
   refine M ?_
   refine Ex ?_
   refine Ex ?_
   refine W.alloc [(str []),(str [])] S zer68 ?_
   intro gb gc S
   refine W.store (i:=0) [(str aa.1.fName),(str aa.1.fValue)] S rfl rfl rfl lay68 rfl rfl (Nat.le_of_ble_eq_true rfl) rfl ?_
   intro gd S
   refine A<|We<|Ws ?_
   obtain ⟨⟨ee,ef⟩,q,a1⟩:=bindE a1
   refine WP.cut (fun f w=>∃ (b8:Hp) (cg:Value) (ch:Value),Sl (α:=GField) b8 cg ee∧Sl (α:=Str) b8 ch ef∧Sl (α:=Str) b8 ak cx∧Sl (α:=GField) b8 al cy∧St w0 H0 w b8 [.row ch 9 1 ef.length,.row cg 68 2 ee.length,.box b3 188 [(str av),(int (wr (an+af.2.1))),cg,ch,ak,(int a9),(int a3),(str a2),al,(str az)],.box b1 24 [(int 0),(int 0),(str []),(.slice none 0 0),(str [])]]) ?_ ?_
   ·refine Wb<|Ws<|Wg<|M<|Lf<|A<|We ?_
    rcases condE q with ⟨dn,q⟩ | ⟨dn,q⟩
    ·refine CT dn ?_
     cases q
    refine CF dn<|Ws<|Wg<|Fb ?_
    refine Lo 0 S<|B q fun ge ez q=>W.call S rfl (zNP S.holds (hG.post S.post) aa.1.fName [67,111,110,116,101,110,116,45,76,101,110,103,116,104] ez) ?_
    rintro gf gg gh c3 S rfl
    have o:=Sl.mono o c3
    have k:=Sl.mono k c3
    have c:=Sl.mono c c3
    have d:=Sl.mono d c3
    refine A<|We ?_
    rcases condE q with ⟨dp,q⟩ | ⟨dp,q⟩
    ·refine CT dp<|WP.draw kr 12 rfl (bm 12 0) rfl ?_
     have S:=S.drew
     refine WA.take (i:=0) (bm 12 1) rfl kr kr kr rfl (fun _=>(R.mv (v:=ptr b3 0) rfl)) ?_
     refine WA.take (i:=1) (bm 12 3) rfl kr kr kr rfl (fun _=>(R.mv (v:=ptr b3 0) rfl)) ?_
     refine WA.take (i:=5) (bm 12 35) rfl kr kr kr rfl (fun _=>(R.fieldB rfl zLk)) ?_
     refine WA.two (i:=2) (j:=6) (bm 12 39) (bm 12 99) rfl rfl kr rfl rfl ?_ ?_
     ·refine Nn<|We ?_
      refine WA.take (i:=3) (bm 12 47) rfl kr kr kr rfl (fun _=>(R.fieldB rfl zFJ)) ?_
      refine WA.two (i:=4) (j:=6) (bm 12 63) (bm 12 111) rfl rfl kr rfl rfl ?_ ?_
      ·refine Lo 3 S<|We<|WA.one (i:=6) (bm 12 127) rfl kr rfl ?_
       refine Lo 0 S<|We<|WA.one (i:=7) (bm 12 255) rfl kr rfl<|W.bslice (α:=Str) [(str aa.1.fValue)] ([aa.1.fValue]:List Str) S el45 rfl rfl rfl (by decide) (Go.Eng.encS ⟨rfl,rfl⟩ enc0) ?_
       intro ci cj ck ah aw S
       have k:=Sl.mono k ah
       have o:=Sl.mono o ah
       have c:=Sl.mono c ah
       have d:=Sl.mono d ah
       refine We<|WA.one (i:=8) (bm 12 511) rfl kr rfl<|B q fun cl bk q=>W.app (α:=Str) (i:=2) S el45 rfl rfl rfl k aw bk ?_
       intro a4 cm bn ac a5 S
       have k:=Sl.mono k ac
       have aw:=Sl.mono aw ac
       have o:=Sl.mono o ac
       have c:=Sl.mono c ac
       have d:=Sl.mono d ac
       refine We<|WA.one (i:=9) (bm 12 1023) rfl kr rfl<|Nn<|We ?_
       refine WA.take (i:=10) (bm 12 2047) rfl kr kr kr rfl (fun _=>(R.fieldB rfl zFJ))<|WA.one (i:=11) (bm 12 4095) rfl kr rfl ?_
       refine W.storeSl (α:=Str) (i:=4) [(str av),(int (wr (an+af.2.1))),ao,a4,ak,(int a9),(int a3),(str a2),al,(str az)] S a5 rfl rfl rfl lay45 (Nat.le_of_ble_eq_true rfl) rfl ?_
       intro cn S
       refine We<|WA.done kr ?_
       cases oi q
       exact ⟨bn,ao,a4,o,a5,c,d,(S.drop _ (.cons _ (.cons _ (.cons_cons _ (.cons_cons _ (.cons_cons _ (.cons_cons _ .slnil)))))))⟩
      refine Lo 0 S<|We ?_
      refine WA.two (i:=4) (j:=7) (bm 12 127) (bm 12 239) rfl rfl kr rfl rfl ?_ ?_
      ·refine Lo 3 S<|We<|WA.one (i:=7) (bm 12 255) rfl kr rfl<|W.bslice (α:=Str) [(str aa.1.fValue)] ([aa.1.fValue]:List Str) S el45 rfl rfl rfl (by decide) (Go.Eng.encS ⟨rfl,rfl⟩ enc0) ?_
       intro ci cj ck ah aw S
       have k:=Sl.mono k ah
       have o:=Sl.mono o ah
       have c:=Sl.mono c ah
       have d:=Sl.mono d ah
       refine We<|WA.one (i:=8) (bm 12 511) rfl kr rfl<|B q fun cl bk q=>W.app (α:=Str) (i:=2) S el45 rfl rfl rfl k aw bk ?_
       intro a4 cm bn ac a5 S
       have k:=Sl.mono k ac
       have aw:=Sl.mono aw ac
       have o:=Sl.mono o ac
       have c:=Sl.mono c ac
       have d:=Sl.mono d ac
       refine We<|WA.one (i:=9) (bm 12 1023) rfl kr rfl<|Nn<|We ?_
       refine WA.take (i:=10) (bm 12 2047) rfl kr kr kr rfl (fun _=>(R.fieldB rfl zFJ))<|WA.one (i:=11) (bm 12 4095) rfl kr rfl ?_
       refine W.storeSl (α:=Str) (i:=4) [(str av),(int (wr (an+af.2.1))),ao,a4,ak,(int a9),(int a3),(str a2),al,(str az)] S a5 rfl rfl rfl lay45 (Nat.le_of_ble_eq_true rfl) rfl ?_
       intro cn S
       refine We<|WA.done kr ?_
       cases oi q
       exact ⟨bn,ao,a4,o,a5,c,d,(S.drop _ (.cons _ (.cons _ (.cons_cons _ (.cons_cons _ (.cons_cons _ (.cons_cons _ .slnil)))))))⟩
      refine W.bslice (α:=Str) [(str aa.1.fValue)] ([aa.1.fValue]:List Str) S el45 rfl rfl rfl (by decide) (Go.Eng.encS ⟨rfl,rfl⟩ enc0) ?_
      intro ci cj ck ah aw S
      have o:=Sl.mono o ah
      have k:=Sl.mono k ah
      have c:=Sl.mono c ah
      have d:=Sl.mono d ah
      refine We<|WA.one (i:=4) (bm 12 255) rfl kr rfl ?_
      refine Lo 4 S<|We<|WA.one (i:=8) (bm 12 511) rfl kr rfl<|B q fun cl bk q=>W.app (α:=Str) (i:=2) S el45 rfl rfl rfl k aw bk ?_
      intro a4 cm bn ac a5 S
      have aw:=Sl.mono aw ac
      have k:=Sl.mono k ac
      have o:=Sl.mono o ac
      have c:=Sl.mono c ac
      have d:=Sl.mono d ac
      refine We<|WA.one (i:=9) (bm 12 1023) rfl kr rfl<|Nn<|We ?_
      refine WA.take (i:=10) (bm 12 2047) rfl kr kr kr rfl (fun _=>(R.fieldB rfl zFJ))<|WA.one (i:=11) (bm 12 4095) rfl kr rfl ?_
      refine W.storeSl (α:=Str) (i:=4) [(str av),(int (wr (an+af.2.1))),ao,a4,ak,(int a9),(int a3),(str a2),al,(str az)] S a5 rfl rfl rfl lay45 (Nat.le_of_ble_eq_true rfl) rfl ?_
      intro cn S
      refine We<|WA.done kr ?_
      cases oi q
      exact ⟨bn,ao,a4,o,a5,c,d,(S.drop _ (.cons _ (.cons _ (.cons_cons _ (.cons_cons _ (.cons_cons _ (.cons_cons _ .slnil)))))))⟩
     refine Lo 0 S<|We ?_
     refine WA.two (i:=2) (j:=7) (bm 12 103) (bm 12 227) rfl rfl kr rfl rfl ?_ ?_
     ·refine Nn<|We ?_
      refine WA.take (i:=3) (bm 12 111) rfl kr kr kr rfl (fun _=>(R.fieldB rfl zFJ)) ?_
      refine WA.two (i:=4) (j:=7) (bm 12 127) (bm 12 239) rfl rfl kr rfl rfl ?_ ?_
      ·refine Lo 3 S<|We<|WA.one (i:=7) (bm 12 255) rfl kr rfl<|W.bslice (α:=Str) [(str aa.1.fValue)] ([aa.1.fValue]:List Str) S el45 rfl rfl rfl (by decide) (Go.Eng.encS ⟨rfl,rfl⟩ enc0) ?_
       intro ci cj ck ah aw S
       have k:=Sl.mono k ah
       have o:=Sl.mono o ah
       have c:=Sl.mono c ah
       have d:=Sl.mono d ah
       refine We<|WA.one (i:=8) (bm 12 511) rfl kr rfl<|B q fun cl bk q=>W.app (α:=Str) (i:=2) S el45 rfl rfl rfl k aw bk ?_
       intro a4 cm bn ac a5 S
       have k:=Sl.mono k ac
       have aw:=Sl.mono aw ac
       have o:=Sl.mono o ac
       have c:=Sl.mono c ac
       have d:=Sl.mono d ac
       refine We<|WA.one (i:=9) (bm 12 1023) rfl kr rfl<|Nn<|We ?_
       refine WA.take (i:=10) (bm 12 2047) rfl kr kr kr rfl (fun _=>(R.fieldB rfl zFJ))<|WA.one (i:=11) (bm 12 4095) rfl kr rfl ?_
       refine W.storeSl (α:=Str) (i:=4) [(str av),(int (wr (an+af.2.1))),ao,a4,ak,(int a9),(int a3),(str a2),al,(str az)] S a5 rfl rfl rfl lay45 (Nat.le_of_ble_eq_true rfl) rfl ?_
       intro cn S
       refine We<|WA.done kr ?_
       cases oi q
       exact ⟨bn,ao,a4,o,a5,c,d,(S.drop _ (.cons _ (.cons _ (.cons_cons _ (.cons_cons _ (.cons_cons _ (.cons_cons _ .slnil)))))))⟩
      refine W.bslice (α:=Str) [(str aa.1.fValue)] ([aa.1.fValue]:List Str) S el45 rfl rfl rfl (by decide) (Go.Eng.encS ⟨rfl,rfl⟩ enc0) ?_
      intro ci cj ck ah aw S
      have o:=Sl.mono o ah
      have k:=Sl.mono k ah
      have c:=Sl.mono c ah
      have d:=Sl.mono d ah
      refine We<|WA.one (i:=4) (bm 12 255) rfl kr rfl ?_
      refine Lo 4 S<|We<|WA.one (i:=8) (bm 12 511) rfl kr rfl<|B q fun cl bk q=>W.app (α:=Str) (i:=2) S el45 rfl rfl rfl k aw bk ?_
      intro a4 cm bn ac a5 S
      have aw:=Sl.mono aw ac
      have k:=Sl.mono k ac
      have o:=Sl.mono o ac
      have c:=Sl.mono c ac
      have d:=Sl.mono d ac
      refine We<|WA.one (i:=9) (bm 12 1023) rfl kr rfl<|Nn<|We ?_
      refine WA.take (i:=10) (bm 12 2047) rfl kr kr kr rfl (fun _=>(R.fieldB rfl zFJ))<|WA.one (i:=11) (bm 12 4095) rfl kr rfl ?_
      refine W.storeSl (α:=Str) (i:=4) [(str av),(int (wr (an+af.2.1))),ao,a4,ak,(int a9),(int a3),(str a2),al,(str az)] S a5 rfl rfl rfl lay45 (Nat.le_of_ble_eq_true rfl) rfl ?_
      intro cn S
      refine We<|WA.done kr ?_
      cases oi q
      exact ⟨bn,ao,a4,o,a5,c,d,(S.drop _ (.cons _ (.cons _ (.cons_cons _ (.cons_cons _ (.cons_cons _ (.cons_cons _ .slnil)))))))⟩
     refine W.bslice (α:=Str) [(str aa.1.fValue)] ([aa.1.fValue]:List Str) S el45 rfl rfl rfl (by decide) (Go.Eng.encS ⟨rfl,rfl⟩ enc0) ?_
     intro ci cj ck ah aw S
     have o:=Sl.mono o ah
     have k:=Sl.mono k ah
     have c:=Sl.mono c ah
     have d:=Sl.mono d ah
     refine We<|WA.one (i:=2) (bm 12 231) rfl kr rfl<|Nn<|We ?_
     refine WA.take (i:=3) (bm 12 239) rfl kr kr kr rfl (fun _=>(R.fieldB rfl zFJ))<|WA.one (i:=4) (bm 12 255) rfl kr rfl ?_
     refine Lo 4 S<|We<|WA.one (i:=8) (bm 12 511) rfl kr rfl<|B q fun cl bk q=>W.app (α:=Str) (i:=2) S el45 rfl rfl rfl k aw bk ?_
     intro a4 cm bn ac a5 S
     have k:=Sl.mono k ac
     have o:=Sl.mono o ac
     have c:=Sl.mono c ac
     have d:=Sl.mono d ac
     refine We<|WA.one (i:=9) (bm 12 1023) rfl kr rfl<|Nn<|We ?_
     refine WA.take (i:=10) (bm 12 2047) rfl kr kr kr rfl (fun _=>(R.fieldB rfl zFJ))<|WA.one (i:=11) (bm 12 4095) rfl kr rfl ?_
     refine W.storeSl (α:=Str) (i:=4) [(str av),(int (wr (an+af.2.1))),ao,a4,ak,(int a9),(int a3),(str a2),al,(str az)] S a5 rfl rfl rfl lay45 (Nat.le_of_ble_eq_true rfl) rfl ?_
     intro cn S
     refine We<|WA.done kr ?_
     cases oi q
     exact ⟨bn,ao,a4,o,a5,c,d,(S.drop _ (.cons _ (.cons _ (.cons_cons _ (.cons_cons _ (.cons_cons _ (.cons_cons _ .slnil)))))))⟩
    refine CF dp<|Ws<|Wg<|Fb ?_
    refine Lo 0 S<|B q fun gi e0 q=>W.call S rfl (zNP S.holds (hG.post S.post) aa.1.fName [84,114,97,110,115,102,101,114,45,69,110,99,111,100,105,110,103] e0) ?_
    rintro gj gk gl c4 S rfl
    have o:=Sl.mono o c4
    have k:=Sl.mono k c4
    have c:=Sl.mono c c4
    have d:=Sl.mono d c4
    refine A<|We ?_
    rcases condE q with ⟨dq,q⟩ | ⟨dq,q⟩
    ·refine CT dq ?_
     cases q
    refine CF dq<|WP.draw kr 11 rfl (bm 11 0) rfl ?_
    have S:=S.drew
    refine WA.take (i:=0) (bm 11 1) rfl kr kr kr rfl (fun _=>(R.mv (v:=ptr b3 0) rfl)) ?_
    refine WA.take (i:=1) (bm 11 3) rfl kr kr kr rfl (fun _=>(R.mv (v:=ptr b3 0) rfl)) ?_
    refine WA.two (i:=2) (j:=5) (bm 11 7) (bm 11 35) rfl rfl kr rfl rfl ?_ ?_
    ·refine Nn<|We ?_
     refine WA.take (i:=3) (bm 11 15) rfl kr kr kr rfl (fun _=>(R.fieldB rfl zBJ)) ?_
     refine WA.two (i:=4) (j:=5) (bm 11 31) (bm 11 47) rfl rfl kr rfl rfl ?_ ?_
     ·refine Lo 3 S<|We<|WA.one (i:=5) (bm 11 63) rfl kr rfl ?_
      refine WL.w (R.loadBN (i:=0) (vs:=[(str aa.1.fName),(str aa.1.fValue)]) S rfl rfl lay68 rfl rfl)<|We<|WA.one (i:=6) (bm 11 127) rfl kr rfl<|W.bslice (α:=GField) [(agg [(str aa.1.fName),(str aa.1.fValue)])] ([aa.1]:List GField) S el22 rfl rfl rfl (by decide) (Go.Eng.encS ⟨rfl,rfl⟩ enc0) ?_
      intro co cp cq ai ax S
      have o:=Sl.mono o ai
      have k:=Sl.mono k ai
      have c:=Sl.mono c ai
      have d:=Sl.mono d ai
      refine We<|WA.one (i:=7) (bm 11 255) rfl kr rfl<|B q fun cr bo q=>W.app (α:=GField) (i:=3) S el22 rfl rfl rfl o ax bo ?_
      intro a6 ct bp ad a7 S
      have o:=Sl.mono o ad
      have ax:=Sl.mono ax ad
      have k:=Sl.mono k ad
      have c:=Sl.mono c ad
      have d:=Sl.mono d ad
      refine We<|WA.one (i:=8) (bm 11 511) rfl kr rfl<|Nn<|We ?_
      refine WA.take (i:=9) (bm 11 1023) rfl kr kr kr rfl (fun _=>(R.fieldB rfl zBJ))<|WA.one (i:=10) (bm 11 2047) rfl kr rfl ?_
      refine W.storeSl (α:=GField) (i:=4) [(str av),(int (wr (an+af.2.1))),a6,ap,ak,(int a9),(int a3),(str a2),al,(str az)] S a7 rfl rfl rfl lay22 (Nat.le_of_ble_eq_true rfl) rfl ?_
      intro cu S
      refine We<|WA.done kr ?_
      cases oi q
      exact ⟨bp,a6,ap,a7,k,c,d,(S.drop _ (.cons _ (.cons _ (.cons_cons _ (.cons_cons _ (.cons_cons _ (.cons_cons _ .slnil)))))))⟩
     refine WL.w (R.loadBN (i:=0) (vs:=[(str aa.1.fName),(str aa.1.fValue)]) S rfl rfl lay68 rfl rfl)<|We ?_
     refine WA.two (i:=4) (j:=6) (bm 11 63) (bm 11 111) rfl rfl kr rfl rfl ?_ ?_
     ·refine Lo 3 S<|We<|WA.one (i:=6) (bm 11 127) rfl kr rfl<|W.bslice (α:=GField) [(agg [(str aa.1.fName),(str aa.1.fValue)])] ([aa.1]:List GField) S el22 rfl rfl rfl (by decide) (Go.Eng.encS ⟨rfl,rfl⟩ enc0) ?_
      intro co cp cq ai ax S
      have o:=Sl.mono o ai
      have k:=Sl.mono k ai
      have c:=Sl.mono c ai
      have d:=Sl.mono d ai
      refine We<|WA.one (i:=7) (bm 11 255) rfl kr rfl<|B q fun cr bo q=>W.app (α:=GField) (i:=3) S el22 rfl rfl rfl o ax bo ?_
      intro a6 ct bp ad a7 S
      have o:=Sl.mono o ad
      have ax:=Sl.mono ax ad
      have k:=Sl.mono k ad
      have c:=Sl.mono c ad
      have d:=Sl.mono d ad
      refine We<|WA.one (i:=8) (bm 11 511) rfl kr rfl<|Nn<|We ?_
      refine WA.take (i:=9) (bm 11 1023) rfl kr kr kr rfl (fun _=>(R.fieldB rfl zBJ))<|WA.one (i:=10) (bm 11 2047) rfl kr rfl ?_
      refine W.storeSl (α:=GField) (i:=4) [(str av),(int (wr (an+af.2.1))),a6,ap,ak,(int a9),(int a3),(str a2),al,(str az)] S a7 rfl rfl rfl lay22 (Nat.le_of_ble_eq_true rfl) rfl ?_
      intro cu S
      refine We<|WA.done kr ?_
      cases oi q
      exact ⟨bp,a6,ap,a7,k,c,d,(S.drop _ (.cons _ (.cons _ (.cons_cons _ (.cons_cons _ (.cons_cons _ (.cons_cons _ .slnil)))))))⟩
     refine W.bslice (α:=GField) [(agg [(str aa.1.fName),(str aa.1.fValue)])] ([aa.1]:List GField) S el22 rfl rfl rfl (by decide) (Go.Eng.encS ⟨rfl,rfl⟩ enc0) ?_
     intro co cp cq ai ax S
     have o:=Sl.mono o ai
     have k:=Sl.mono k ai
     have c:=Sl.mono c ai
     have d:=Sl.mono d ai
     refine We<|WA.one (i:=4) (bm 11 127) rfl kr rfl ?_
     refine Lo 4 S<|We<|WA.one (i:=7) (bm 11 255) rfl kr rfl<|B q fun cr bo q=>W.app (α:=GField) (i:=3) S el22 rfl rfl rfl o ax bo ?_
     intro a6 ct bp ad a7 S
     have ax:=Sl.mono ax ad
     have o:=Sl.mono o ad
     have k:=Sl.mono k ad
     have c:=Sl.mono c ad
     have d:=Sl.mono d ad
     refine We<|WA.one (i:=8) (bm 11 511) rfl kr rfl<|Nn<|We ?_
     refine WA.take (i:=9) (bm 11 1023) rfl kr kr kr rfl (fun _=>(R.fieldB rfl zBJ))<|WA.one (i:=10) (bm 11 2047) rfl kr rfl ?_
     refine W.storeSl (α:=GField) (i:=4) [(str av),(int (wr (an+af.2.1))),a6,ap,ak,(int a9),(int a3),(str a2),al,(str az)] S a7 rfl rfl rfl lay22 (Nat.le_of_ble_eq_true rfl) rfl ?_
     intro cu S
     refine We<|WA.done kr ?_
     cases oi q
     exact ⟨bp,a6,ap,a7,k,c,d,(S.drop _ (.cons _ (.cons _ (.cons_cons _ (.cons_cons _ (.cons_cons _ (.cons_cons _ .slnil)))))))⟩
    refine WL.w (R.loadBN (i:=0) (vs:=[(str aa.1.fName),(str aa.1.fValue)]) S rfl rfl lay68 rfl rfl)<|We ?_
    refine WA.two (i:=2) (j:=6) (bm 11 39) (bm 11 99) rfl rfl kr rfl rfl ?_ ?_
    ·refine Nn<|We ?_
     refine WA.take (i:=3) (bm 11 47) rfl kr kr kr rfl (fun _=>(R.fieldB rfl zBJ)) ?_
     refine WA.two (i:=4) (j:=6) (bm 11 63) (bm 11 111) rfl rfl kr rfl rfl ?_ ?_
     ·refine Lo 3 S<|We<|WA.one (i:=6) (bm 11 127) rfl kr rfl<|W.bslice (α:=GField) [(agg [(str aa.1.fName),(str aa.1.fValue)])] ([aa.1]:List GField) S el22 rfl rfl rfl (by decide) (Go.Eng.encS ⟨rfl,rfl⟩ enc0) ?_
      intro co cp cq ai ax S
      have o:=Sl.mono o ai
      have k:=Sl.mono k ai
      have c:=Sl.mono c ai
      have d:=Sl.mono d ai
      refine We<|WA.one (i:=7) (bm 11 255) rfl kr rfl<|B q fun cr bo q=>W.app (α:=GField) (i:=3) S el22 rfl rfl rfl o ax bo ?_
      intro a6 ct bp ad a7 S
      have o:=Sl.mono o ad
      have ax:=Sl.mono ax ad
      have k:=Sl.mono k ad
      have c:=Sl.mono c ad
      have d:=Sl.mono d ad
      refine We<|WA.one (i:=8) (bm 11 511) rfl kr rfl<|Nn<|We ?_
      refine WA.take (i:=9) (bm 11 1023) rfl kr kr kr rfl (fun _=>(R.fieldB rfl zBJ))<|WA.one (i:=10) (bm 11 2047) rfl kr rfl ?_
      refine W.storeSl (α:=GField) (i:=4) [(str av),(int (wr (an+af.2.1))),a6,ap,ak,(int a9),(int a3),(str a2),al,(str az)] S a7 rfl rfl rfl lay22 (Nat.le_of_ble_eq_true rfl) rfl ?_
      intro cu S
      refine We<|WA.done kr ?_
      cases oi q
      exact ⟨bp,a6,ap,a7,k,c,d,(S.drop _ (.cons _ (.cons _ (.cons_cons _ (.cons_cons _ (.cons_cons _ (.cons_cons _ .slnil)))))))⟩
     refine W.bslice (α:=GField) [(agg [(str aa.1.fName),(str aa.1.fValue)])] ([aa.1]:List GField) S el22 rfl rfl rfl (by decide) (Go.Eng.encS ⟨rfl,rfl⟩ enc0) ?_
     intro co cp cq ai ax S
     have o:=Sl.mono o ai
     have k:=Sl.mono k ai
     have c:=Sl.mono c ai
     have d:=Sl.mono d ai
     refine We<|WA.one (i:=4) (bm 11 127) rfl kr rfl ?_
     refine Lo 4 S<|We<|WA.one (i:=7) (bm 11 255) rfl kr rfl<|B q fun cr bo q=>W.app (α:=GField) (i:=3) S el22 rfl rfl rfl o ax bo ?_
     intro a6 ct bp ad a7 S
     have ax:=Sl.mono ax ad
     have o:=Sl.mono o ad
     have k:=Sl.mono k ad
     have c:=Sl.mono c ad
     have d:=Sl.mono d ad
     refine We<|WA.one (i:=8) (bm 11 511) rfl kr rfl<|Nn<|We ?_
     refine WA.take (i:=9) (bm 11 1023) rfl kr kr kr rfl (fun _=>(R.fieldB rfl zBJ))<|WA.one (i:=10) (bm 11 2047) rfl kr rfl ?_
     refine W.storeSl (α:=GField) (i:=4) [(str av),(int (wr (an+af.2.1))),a6,ap,ak,(int a9),(int a3),(str a2),al,(str az)] S a7 rfl rfl rfl lay22 (Nat.le_of_ble_eq_true rfl) rfl ?_
     intro cu S
     refine We<|WA.done kr ?_
     cases oi q
     exact ⟨bp,a6,ap,a7,k,c,d,(S.drop _ (.cons _ (.cons _ (.cons_cons _ (.cons_cons _ (.cons_cons _ (.cons_cons _ .slnil)))))))⟩
    refine W.bslice (α:=GField) [(agg [(str aa.1.fName),(str aa.1.fValue)])] ([aa.1]:List GField) S el22 rfl rfl rfl (by decide) (Go.Eng.encS ⟨rfl,rfl⟩ enc0) ?_
    intro co cp cq ai ax S
    have o:=Sl.mono o ai
    have k:=Sl.mono k ai
    have c:=Sl.mono c ai
    have d:=Sl.mono d ai
    refine We<|WA.one (i:=2) (bm 11 103) rfl kr rfl<|Nn<|We ?_
    refine WA.take (i:=3) (bm 11 111) rfl kr kr kr rfl (fun _=>(R.fieldB rfl zBJ))<|WA.one (i:=4) (bm 11 127) rfl kr rfl ?_
    refine Lo 4 S<|We<|WA.one (i:=7) (bm 11 255) rfl kr rfl<|B q fun cr bo q=>W.app (α:=GField) (i:=3) S el22 rfl rfl rfl o ax bo ?_
    intro a6 ct bp ad a7 S
    have k:=Sl.mono k ad
    have c:=Sl.mono c ad
    have d:=Sl.mono d ad
    refine We<|WA.one (i:=8) (bm 11 511) rfl kr rfl<|Nn<|We ?_
    refine WA.take (i:=9) (bm 11 1023) rfl kr kr kr rfl (fun _=>(R.fieldB rfl zBJ))<|WA.one (i:=10) (bm 11 2047) rfl kr rfl ?_
    refine W.storeSl (α:=GField) (i:=4) [(str av),(int (wr (an+af.2.1))),a6,ap,ak,(int a9),(int a3),(str a2),al,(str az)] S a7 rfl rfl rfl lay22 (Nat.le_of_ble_eq_true rfl) rfl ?_
    intro cu S
    refine We<|WA.done kr ?_
    cases oi q
    exact ⟨bp,a6,ap,a7,k,c,d,(S.drop _ (.cons _ (.cons _ (.cons_cons _ (.cons_cons _ (.cons_cons _ (.cons_cons _ .slnil)))))))⟩
   rintro f w ⟨b8,cg,ch,e1,e2,c,d,S⟩
   refine Ws<|Wg<|A<|We ?_
   refine WP.ret (In.one rfl rfl ?_)
   refine A<|We ?_
   obtain rfl:=oi a1
   exact ⟨b8,cg,ch,b6,dg,cz,rfl,e1,e2,c,d,S⟩
  intro f w hM
  rcases d9 with ⟨ea,di,dj,eb,ec,ed⟩ | e
  ·obtain ⟨b7,ce,cf,e3,e4,e5,e6,e7,e8,c,d,S⟩:=hM
   refine Ws<|Wg<|M' e6<|Lf<|We ?_
   rcases condE ba with ⟨dr,ba⟩ | ⟨dr,ba⟩
   ·refine CT dr ?_
    cases ba
   refine CF dr<|Wk<|Wg<|M' e5<|Lg<|A<|We ?_
   obtain rfl:=oi ba
   exact ⟨rfl,⟨b7,ce,cf,ak,al,e3,e4,rfl,e7,e8,c,d,S⟩⟩
  exact hM.elim
 rintro f w ⟨H5,p,bc,be,bw,h7,z,aj,am,bf,S⟩
 refine InR.one rfl h7<|A<|We<|Ws<|Wg<|M<|Lf<|We ?_
 rcases condE h with ⟨ds,h⟩ | ⟨ds,h⟩
 ·refine CT ds ?_
  cases h
 refine CF ds<|Wk<|Ws<|Ws<|Wg<|M<|Nn<|Fb<|W.inl (args:=[(ptr b3 0)]) rfl (N':=75) Tryz.func113 rfl rfl kr rfl<|Ws<|Wg<|A ?_
 refine We<|Ws<|Ws<|Wg<|M<|Nn<|Fb ?_
 refine Lo 0 S<|Nq am<|Lc<|M<|B h fun fa b0 h=>WL.grpw 17 [14,15,16,17,18,19,20,21,22,23,24,25,26,27,28,29] 30 (boo fa) (fun w=>∃ H':Hp,H5.le H'∧St w0 H0 w H' [.box b3 188 [(str m8),(int m9),p,bc,be,(int u),(int t),(str x),bw,(str b4)],.box b1 24 [(int 0),(int 0),(str []),(.slice none 0 0),(str [])]]) ?_ ?_
 ·rcases boolE (decide (1<(b2.length:Int))) with aq | aq
  ·replace b0:=condT b0 aq
   refine Gn aq<|Gn aq<|Gn aq<|Gn aq<|Gn aq<|Gn aq<|Gn aq<|WL.gund rfl rfl<|WL.gund rfl rfl<|WL.gund rfl rfl<|WL.gund rfl rfl<|WL.gund rfl rfl ?_
   refine WL.gund rfl rfl<|WL.gund rfl rfl<|WL.gund rfl rfl<|Gn aq<|Pt aq ?_
   exact We ⟨(congrArg boo (oi b0)),ag,⟨H5,(Hp.le.refl _),S⟩⟩
  replace b0:=condF b0 aq
  refine Gy aq<|M<|Gy aq<|Nn<|Gy aq<|Fb<|Gy aq ?_
  refine Lo 0 S<|Gy aq<|Nq am<|Gy aq<|Le ?_
  refine Gy aq<|M<|B b0 fun fb bu b0=>WL.grpw 9 [21,22,23,24,25,26,27,28] 29 (boo fb) (fun w=>∃ H':Hp,H5.le H'∧St w0 H0 w H' [.box b3 188 [(str m8),(int m9),p,bc,be,(int u),(int t),(str x),bw,(str b4)],.box b1 24 [(int 0),(int 0),(str []),(.slice none 0 0),(str [])]]) ?_ ?_
  ·rcases boolE ((b2.length:Int)==1) with ay | ay
   ·replace bu:=condT bu ay
    refine Gy ay<|M<|Gy ay<|Nn<|Gy ay<|Fb<|Gy ay ?_
    refine Lo 0 S<|Gy ay<|B bu fun fc fd bu=>W.idx (α:=Str) am rfl rfl el45 fd ?_
    rintro gm _ fe rfl
    refine Gy ay ?_
    refine Lq S fe<|Gy ay<|B bu fun gn ff bu=>W.call S rfl (zNP S.holds (hG.post S.post) fc [99,104,117,110,107,101,100] ff) ?_
    rintro go gp fg cv S rfl
    have am:=Sl.mono am cv
    have z:=Sl.mono z cv
    have aj:=Sl.mono aj cv
    have bf:=Sl.mono bf cv
    refine Gy ay<|No<|Gy aq<|Pt ay ?_
    exact We ⟨(congrArg boo (oi bu)),ag,⟨fg,cv,S⟩⟩
   replace bu:=condF bu ay
   refine Gn ay<|Gn ay<|Gn ay<|Gn ay<|Gn ay<|Gn ay<|Gn ay<|Gn ay<|Gy aq<|Pf ay ?_
   exact We ⟨(congrArg boo (oi bu)),ag,⟨H5,(Hp.le.refl _),S⟩⟩
  intro us gq ⟨fh,cw,S⟩
  have am:=Sl.mono am cw
  have z:=Sl.mono z cw
  have aj:=Sl.mono aj cw
  have bf:=Sl.mono bf cw
  refine Pf aq ?_
  exact We ⟨(congrArg boo (oi b0)),ag,⟨fh,cw,S⟩⟩
 intro us gr ⟨fi,c5,S⟩
 have am:=Sl.mono am c5
 have z:=Sl.mono z c5
 have aj:=Sl.mono aj c5
 have bf:=Sl.mono bf c5
 refine We ?_
 rcases condE h with ⟨dt,h⟩ | ⟨dt,h⟩
 ·refine CT dt ?_
  cases h
 refine CF dt<|Wk<|Ws<|Ws<|Wg<|M<|Nn<|Fb ?_
 refine Lo 0 S<|Nq aj<|Lc<|M ?_
 refine WL.grp 15 [38,39,40,41,42,43,44,45,46,47,48,49,50,51] 52 (boo ((decide (1<(br.length:Int)))||(((br.length:Int)==1)&&((b2.length:Int)==1)))) ?_ ?_
 ·rcases boolE (decide (1<(br.length:Int))) with ar | ar
  ·refine Gn ar<|Gn ar<|Gn ar<|Gn ar<|Gn ar<|Gn ar<|Gn ar<|WL.gund rfl rfl<|WL.gund rfl rfl<|WL.gund rfl rfl<|WL.gund rfl rfl<|WL.gund rfl rfl ?_
   refine WL.gund rfl rfl<|Gn ar<|Pt ar ?_
   exact We ⟨(orT ar),ag,rfl⟩
  refine Gy ar<|M<|Gy ar<|Nn<|Gy ar<|Fb<|Gy ar ?_
  refine Lo 0 S<|Gy ar<|Nq aj<|Gy ar<|Le ?_
  refine Gy ar<|M ?_
  refine WL.grp 7 [45,46,47,48,49,50] 51 (boo (((br.length:Int)==1)&&((b2.length:Int)==1))) ?_ ?_
  ·rcases boolE ((br.length:Int)==1) with a8 | a8
   ·refine Gy a8<|M<|Gy a8<|Nn<|Gy a8<|Fb<|Gy a8 ?_
    refine Lo 0 S<|Gy a8<|Nq am<|Gy a8<|Le ?_
    refine Gy ar<|Pt a8 ?_
    exact We ⟨(andT a8),ag,rfl⟩
   refine Gn a8<|Gn a8<|Gn a8<|Gn a8<|Gn a8<|Gn a8<|Gy ar<|Pf a8 ?_
   exact We ⟨(andF a8),ag,rfl⟩
  intro us
  refine Pf ar ?_
  exact We ⟨(orF ar),ag,rfl⟩
 intro us
 refine We ?_
 rcases condE h with ⟨du,h⟩ | ⟨du,h⟩
 ·refine CT du ?_
  cases h
 refine CF du<|Wk<|Ws<|Ws<|Wg<|M<|Nn<|Fb ?_
 refine Lo 0 S<|Nq aj<|M<|We<|B h fun fj fk h=>WP.cut (fun f w=>∃ (cd:Hp),Sl (α:=GField) cd p c8∧Sl (α:=Str) cd bc br∧Sl (α:=Str) cd be b2∧Sl (α:=GField) cd bw c9∧St w0 H0 w cd [.box b3 188 [(str m8),(int m9),p,bc,be,(int u),(int t),(str x),bw,(str b4)],.box b1 24 [(int 0),(int 0),(str []),(.slice none 0 0),(str [])]]) ?_ ?_
 ·refine Wb ?_
  refine WP.loopM (zAu br) (fun s f w=>match s with | eg=>∃ (b9:Hp),f 56=bc∧f 57=(int (br.length:Int))∧f 58=(int eg)∧Sl (α:=Str) b9 bc br∧Sl (α:=GField) b9 p c8∧Sl (α:=Str) b9 be b2∧Sl (α:=GField) b9 bw c9∧St w0 H0 w b9 [.box b3 188 [(str m8),(int m9),p,bc,be,(int u),(int t),(str x),bw,(str b4)],.box b1 24 [(int 0),(int 0),(str []),(.slice none 0 0),(str [])]]) 0 fj (lfW fk) ?_ ?_
  ·exact ⟨fi,rfl,rfl,rfl,aj,z,am,bf,S⟩
  intro eg f w hI gs bg fl
  obtain ⟨b9,eh,ei,dv,aj,z,am,bf,S⟩:=hI
  refine Ws<|Wg<|La' dv ei<|We<|Ws ?_
  rcases condE bg with ⟨dw,bg⟩ | ⟨dw,bg⟩
  ·refine CT dw<|Wk<|Ws<|Wb<|Ws<|Wg<|B bg fun ej fm bg=>W.idx (α:=Str) aj eh dv el45 fm ?_
   rintro gt _ fn rfl
   refine Lq S fn<|A<|We<|Ws<|Wg<|M<|B bg fun ek fo bg=>W.call S rfl (zCI S.holds (hG.post S.post) ej fo) ?_
   rintro gu gv fp c6 S rfl
   have aj:=Sl.mono aj c6
   have z:=Sl.mono z c6
   have am:=Sl.mono am c6
   have bf:=Sl.mono bf c6
   refine M ?_
   refine Ex ?_
   refine Ex<|A<|A<|We<|Ws<|Wg<|M<|No<|M ?_
   refine WL.grp 4 [70,71,72] 73 (boo ((!ek.2)||(decide (9<(ej.length:Int))))) ?_ ?_
   ·rcases boolE (!ek.2) with bq | bq
    ·refine Gn bq<|Gn bq<|Gn bq<|Pt bq ?_
     exact We ⟨(orT bq),ag,rfl⟩
    refine Gy bq<|M<|Gy bq<|Ns<|Gy bq<|Lc<|Pf bq ?_
    exact We ⟨(orF bq),ag,rfl⟩
   intro us
   refine We ?_
   rcases condE bg with ⟨dx,bg⟩ | ⟨dx,bg⟩
   ·refine CT dx ?_
    cases bg
   refine CF dx<|Wk<|Wg<|Lg' dv rfl<|M<|We ?_
   obtain rfl:=oi bg
   exact ⟨rfl,⟨fp,eh,ei,rfl,aj,z,am,bf,S⟩⟩
  refine CF dw<|Wx ?_
  obtain rfl:=oi bg
  obtain rfl:=fl
  exact ⟨b9,z,aj,am,bf,S⟩
 rintro f w ⟨cd,z,aj,am,bf,S⟩
 refine Ws<|Wg<|A<|We ?_
 refine WP.ret (In.one rfl rfl ?_)
 refine A<|We<|Ws<|Wg<|M ?_
 refine WL.w (v:=boo false) (R.ofEq (R.neq rfl rfl) rfl)<|We<|WP.condF (b:=false) rfl rfl<|Wk<|Ws<|Wg<|M ?_
 refine M<|Nn<|Fb<|Fb ?_
 refine Lo 0 S<|Nn<|Fb<|Fb ?_
 refine W.storeSl (α:=GField) (i:=0) [(str m8),(int m9),p,bc,be,(int u),(int t),(str x),p,(str b4)] S z rfl rfl rfl lay22 (Nat.le_of_ble_eq_true rfl) rfl ?_
 intro gw S
 refine We<|Ws<|Wg<|A<|We<|Ws<|Wb<|Ws<|Wg<|M<|Nn<|Fb ?_
 refine Fb ?_
 refine Lo 0 S<|M<|B h fun gx fq h=>W.call S rfl (zN0 S.holds (hG.post S.post) t c7 fq) ?_
 rintro gy gz g0 dy S rfl
 have z:=Sl.mono z dy
 have aj:=Sl.mono aj dy
 have am:=Sl.mono am dy
 refine A<|We ?_
 rcases condE h with ⟨dz,h⟩ | ⟨dz,h⟩
 ·refine CT dz ?_
  cases h
 refine CF dz<|Ws<|WP.quiet S kr kr<|QM<|QNn<|QFb<|QFb ?_
 refine WQ.val (fun w hw=>by obtain ⟨_,hq,S⟩:=hw; exact (R.loadB (i:=0) (v:=be) S rfl rfl lay45 rfl))<|QNq am<|QM<|QNn<|QFb ?_
 refine QFb ?_
 refine WQ.val (fun w hw=>by obtain ⟨_,hq,S⟩:=hw; exact (R.loadB (i:=0) (v:=bc) S rfl rfl lay45 rfl))<|QNq aj<|QLg<|QLc<|QA<|WQ.nil ?_
 intro g1 g2 d0 S
 have z:=Sl.mono z d0
 have am:=Sl.mono am d0
 have aj:=Sl.mono aj d0
 rcases condE h with ⟨d1,h⟩ | ⟨d1,h⟩
 ·refine CT d1<|Wg<|M<|M<|Nn<|Fb<|W.inl (args:=[(ptr b3 0)]) rfl (N':=76) Tryz.func115 rfl rfl kr rfl<|Ws<|Wg<|A<|A<|We ?_
  refine Ws<|WP.quiet S kr kr<|QM<|QNn<|QFb ?_
  refine WQ.val (fun w hw=>by obtain ⟨_,hq,S⟩:=hw; exact (R.loadB (i:=0) (v:=str m8) S rfl rfl lay9 rfl))<|QM<|QNn<|QFb ?_
  refine WQ.val (fun w hw=>by obtain ⟨_,hq,S⟩:=hw; exact (R.loadB (i:=0) (v:=int m9) S rfl rfl lay3 rfl))<|B h fun g3 fr h=>QJc fr<|QA<|WQ.nil ?_
  intro g4 g5 d2 S
  have z:=Sl.mono z d2
  have aj:=Sl.mono aj d2
  have am:=Sl.mono am d2
  refine Ws<|Wb<|Ws<|Wg<|M<|Nn<|Fb ?_
  refine Lo 0 S<|Nq am<|Lc<|A<|We ?_
  rcases condE h with ⟨d3,h⟩ | ⟨d3,h⟩
  ·refine CT d3 ?_
   cases h
  refine CF d3<|Ws<|Wg<|M<|Nn<|Fb ?_
  refine Lo 0 S<|Nq aj<|Lc<|A<|We ?_
  rcases condE h with ⟨d4,h⟩ | ⟨d4,h⟩
  ·refine CT d4<|Ws<|Wg<|M<|Nn<|Fb ?_
   refine Lo 0 S<|B h fun fs ft h=>W.idx (α:=Str) aj rfl rfl el45 ft ?_
   rintro g6 _ fu rfl
   refine Lq S fu<|B h fun bj fv h=>W.call S rfl (zCI S.holds (hG.post S.post) fs fv) ?_
   rintro g7 g8 g9 fw S rfl
   have z:=Sl.mono z fw
   refine M ?_
   refine Ex ?_
   refine Ex<|A<|A<|We<|Ws<|Ws<|Wg<|M<|Lc<|We ?_
   rcases condE h with ⟨d5,h⟩ | ⟨d5,h⟩
   ·refine CT d5 ?_
    cases h
   refine CF d5<|Wk<|Ws<|Ws<|Wg<|M<|M<|Ns<|Lc<|We ?_
   rcases condE h with ⟨d6,h⟩ | ⟨d6,h⟩
   ·refine CT d6 ?_
    cases h
   refine CF d6<|Wk<|Ws<|Wg<|M<|Nn<|Fb ?_
   refine Lo 0 S<|M<|Lg<|Nn<|Fb ?_
   refine W.store (i:=0) [(str m8),(int (wr (m9+bj.1))),p,bc,be,(int u),(int t),(str x),p,(str b4)] S rfl rfl rfl lay3 rfl rfl (Nat.le_of_ble_eq_true rfl) rfl ?_
   intro ha S
   refine We<|Ws<|Wg<|M<|M<|B h fun ab fx h=>Jd fx<|A<|A<|We ?_
   refine WP.ret (In.two rfl rfl rfl ?_)
   refine M ?_
   refine Ex ?_
   refine Ex<|Nn<|Fb<|Fb ?_
   refine W.store (i:=0) [(str m8),(int (wr (m9+bj.1))),p,bc,be,(int u),(int t),(str x),p,(str ab)] S rfl rfl rfl lay9 rfl rfl (Nat.le_of_ble_eq_true rfl) rfl ?_
   intro hb S
   refine A<|We<|Ws<|Ws<|Wg<|M ?_
   refine WL.w (v:=boo false) (R.ofEq (R.neq rfl rfl) rfl)<|We<|WP.condF (b:=false) rfl rfl<|Wk<|Ws<|WP.draw kr 12 rfl (bm 12 0) rfl ?_
   have S:=S.drew
   refine WA.take (i:=0) (bm 12 1) rfl kr kr kr rfl (fun _=>(R.mv (v:=ptr b3 0) rfl)) ?_
   refine WA.take (i:=4) (bm 12 17) rfl kr kr kr rfl (fun _=>(R.mv (v:=ptr b3 0) rfl)) ?_
   refine WA.two (i:=1) (j:=5) (bm 12 19) (bm 12 49) rfl rfl kr rfl rfl ?_ ?_
   ·refine Nn<|We ?_
    refine WA.take (i:=2) (bm 12 23) rfl kr kr kr rfl (fun _=>(R.fieldB rfl zKE)) ?_
    refine WA.two (i:=3) (j:=5) (bm 12 31) (bm 12 55) rfl rfl kr rfl rfl ?_ ?_
    ·refine WL.w (R.loadBN (i:=0) (vs:=[(int u),(int t),(str x),p,(str ab)]) S rfl rfl lay24 rfl rfl)<|We ?_
     refine WA.two (i:=5) (j:=9) (bm 12 63) (bm 12 543) rfl rfl kr rfl rfl ?_ ?_
     ·refine Nn<|We ?_
      refine WA.take (i:=6) (bm 12 127) rfl kr kr kr rfl (fun _=>(R.fieldB rfl zJV)) ?_
      refine WA.take (i:=7) (bm 12 255) rfl kr kr kr rfl (fun _=>(R.fieldB rfl zF2)) ?_
      refine WA.two (i:=8) (j:=9) (bm 12 511) (bm 12 767) rfl rfl kr rfl rfl ?_ ?_
      ·refine Lo 0 S<|We<|WA.one (i:=9) (bm 12 1023) rfl kr rfl ?_
       refine W.store (i:=1) [(int u),(int t),(str x),p,(str ab)] S rfl rfl rfl lay24 rfl (AllOne.all (l:=[(int u),(int t),(str x),p,(str ab)]) (.cons rfl (.cons rfl (.cons rfl (.cons (Sl.oneC z) (.cons rfl .nil)))))) (Nat.le_of_ble_eq_true rfl) rfl ?_
       intro bz S
       refine We ?_
       refine WA.take (i:=10) (bm 12 2047) rfl kr kr kr rfl (fun _=>(R.as (v:=int (wr (m9+bj.1))) rfl)) ?_
       refine WA.take (i:=11) (bm 12 4095) rfl kr kr kr rfl (fun _=>(R.as (v:=int 0) rfl))<|WA.done kr ?_
       obtain rfl:=oi h
       refine WP.ret (Out.three rfl S (Res.cellB (i:=1) (cs:=[(int u),(int t),(str x),p,(str ab)]) S rfl rfl lay24 rfl rfl) rfl rfl ?_)
       exact ⟨_,rfl,z⟩
      refine W.store (i:=1) [(int u),(int t),(str x),p,(str ab)] S rfl rfl rfl lay24 rfl (AllOne.all (l:=[(int u),(int t),(str x),p,(str ab)]) (.cons rfl (.cons rfl (.cons rfl (.cons (Sl.oneC z) (.cons rfl .nil)))))) (Nat.le_of_ble_eq_true rfl) rfl ?_
      intro bz S
      refine We<|WA.one (i:=8) (bm 12 1023) rfl kr rfl ?_
      refine Lo 0 S<|We ?_
      refine WA.take (i:=10) (bm 12 2047) rfl kr kr kr rfl (fun _=>(R.as (v:=int (wr (m9+bj.1))) rfl)) ?_
      refine WA.take (i:=11) (bm 12 4095) rfl kr kr kr rfl (fun _=>(R.as (v:=int 0) rfl))<|WA.done kr ?_
      obtain rfl:=oi h
      refine WP.ret (Out.three rfl S (Res.cellB (i:=1) (cs:=[(int u),(int t),(str x),p,(str ab)]) S rfl rfl lay24 rfl rfl) rfl rfl ?_)
      exact ⟨_,rfl,z⟩
     refine W.store (i:=1) [(int u),(int t),(str x),p,(str ab)] S rfl rfl rfl lay24 rfl (AllOne.all (l:=[(int u),(int t),(str x),p,(str ab)]) (.cons rfl (.cons rfl (.cons rfl (.cons (Sl.oneC z) (.cons rfl .nil)))))) (Nat.le_of_ble_eq_true rfl) rfl ?_
     intro bz S
     refine We<|WA.one (i:=5) (bm 12 575) rfl kr rfl<|Nn<|We ?_
     refine WA.take (i:=6) (bm 12 639) rfl kr kr kr rfl (fun _=>(R.fieldB rfl zJV)) ?_
     refine WA.take (i:=7) (bm 12 767) rfl kr kr kr rfl (fun _=>(R.fieldB rfl zF2))<|WA.one (i:=8) (bm 12 1023) rfl kr rfl ?_
     refine Lo 0 S<|We ?_
     refine WA.take (i:=10) (bm 12 2047) rfl kr kr kr rfl (fun _=>(R.as (v:=int (wr (m9+bj.1))) rfl)) ?_
     refine WA.take (i:=11) (bm 12 4095) rfl kr kr kr rfl (fun _=>(R.as (v:=int 0) rfl))<|WA.done kr ?_
     obtain rfl:=oi h
     refine WP.ret (Out.three rfl S (Res.cellB (i:=1) (cs:=[(int u),(int t),(str x),p,(str ab)]) S rfl rfl lay24 rfl rfl) rfl rfl ?_)
     exact ⟨_,rfl,z⟩
    refine Nn<|We ?_
    refine WA.take (i:=6) (bm 12 119) rfl kr kr kr rfl (fun _=>(R.fieldB rfl zJV)) ?_
    refine WA.take (i:=7) (bm 12 247) rfl kr kr kr rfl (fun _=>(R.fieldB rfl zF2)) ?_
    refine WA.two (i:=3) (j:=8) (bm 12 255) (bm 12 503) rfl rfl kr rfl rfl ?_ ?_
    ·refine WL.w (R.loadBN (i:=0) (vs:=[(int u),(int t),(str x),p,(str ab)]) S rfl rfl lay24 rfl rfl)<|We ?_
     refine WA.two (i:=8) (j:=9) (bm 12 511) (bm 12 767) rfl rfl kr rfl rfl ?_ ?_
     ·refine Lo 0 S<|We<|WA.one (i:=9) (bm 12 1023) rfl kr rfl ?_
      refine W.store (i:=1) [(int u),(int t),(str x),p,(str ab)] S rfl rfl rfl lay24 rfl (AllOne.all (l:=[(int u),(int t),(str x),p,(str ab)]) (.cons rfl (.cons rfl (.cons rfl (.cons (Sl.oneC z) (.cons rfl .nil)))))) (Nat.le_of_ble_eq_true rfl) rfl ?_
      intro bz S
      refine We ?_
      refine WA.take (i:=10) (bm 12 2047) rfl kr kr kr rfl (fun _=>(R.as (v:=int (wr (m9+bj.1))) rfl)) ?_
      refine WA.take (i:=11) (bm 12 4095) rfl kr kr kr rfl (fun _=>(R.as (v:=int 0) rfl))<|WA.done kr ?_
      obtain rfl:=oi h
      refine WP.ret (Out.three rfl S (Res.cellB (i:=1) (cs:=[(int u),(int t),(str x),p,(str ab)]) S rfl rfl lay24 rfl rfl) rfl rfl ?_)
      exact ⟨_,rfl,z⟩
     refine W.store (i:=1) [(int u),(int t),(str x),p,(str ab)] S rfl rfl rfl lay24 rfl (AllOne.all (l:=[(int u),(int t),(str x),p,(str ab)]) (.cons rfl (.cons rfl (.cons rfl (.cons (Sl.oneC z) (.cons rfl .nil)))))) (Nat.le_of_ble_eq_true rfl) rfl ?_
     intro bz S
     refine We<|WA.one (i:=8) (bm 12 1023) rfl kr rfl ?_
     refine Lo 0 S<|We ?_
     refine WA.take (i:=10) (bm 12 2047) rfl kr kr kr rfl (fun _=>(R.as (v:=int (wr (m9+bj.1))) rfl)) ?_
     refine WA.take (i:=11) (bm 12 4095) rfl kr kr kr rfl (fun _=>(R.as (v:=int 0) rfl))<|WA.done kr ?_
     obtain rfl:=oi h
     refine WP.ret (Out.three rfl S (Res.cellB (i:=1) (cs:=[(int u),(int t),(str x),p,(str ab)]) S rfl rfl lay24 rfl rfl) rfl rfl ?_)
     exact ⟨_,rfl,z⟩
    refine Lo 0 S<|We<|WA.one (i:=3) (bm 12 511) rfl kr rfl ?_
    refine WL.w (R.loadBN (i:=0) (vs:=[(int u),(int t),(str x),p,(str ab)]) S rfl rfl lay24 rfl rfl)<|We<|WA.one (i:=9) (bm 12 1023) rfl kr rfl ?_
    refine W.store (i:=1) [(int u),(int t),(str x),p,(str ab)] S rfl rfl rfl lay24 rfl (AllOne.all (l:=[(int u),(int t),(str x),p,(str ab)]) (.cons rfl (.cons rfl (.cons rfl (.cons (Sl.oneC z) (.cons rfl .nil)))))) (Nat.le_of_ble_eq_true rfl) rfl ?_
    intro bz S
    refine We ?_
    refine WA.take (i:=10) (bm 12 2047) rfl kr kr kr rfl (fun _=>(R.as (v:=int (wr (m9+bj.1))) rfl)) ?_
    refine WA.take (i:=11) (bm 12 4095) rfl kr kr kr rfl (fun _=>(R.as (v:=int 0) rfl))<|WA.done kr ?_
    obtain rfl:=oi h
    refine WP.ret (Out.three rfl S (Res.cellB (i:=1) (cs:=[(int u),(int t),(str x),p,(str ab)]) S rfl rfl lay24 rfl rfl) rfl rfl ?_)
    exact ⟨_,rfl,z⟩
   refine Nn<|We ?_
   refine WA.take (i:=6) (bm 12 113) rfl kr kr kr rfl (fun _=>(R.fieldB rfl zJV)) ?_
   refine WA.take (i:=7) (bm 12 241) rfl kr kr kr rfl (fun _=>(R.fieldB rfl zF2)) ?_
   refine WA.two (i:=1) (j:=8) (bm 12 243) (bm 12 497) rfl rfl kr rfl rfl ?_ ?_
   ·refine Nn<|We ?_
    refine WA.take (i:=2) (bm 12 247) rfl kr kr kr rfl (fun _=>(R.fieldB rfl zKE)) ?_
    refine WA.two (i:=3) (j:=8) (bm 12 255) (bm 12 503) rfl rfl kr rfl rfl ?_ ?_
    ·refine WL.w (R.loadBN (i:=0) (vs:=[(int u),(int t),(str x),p,(str ab)]) S rfl rfl lay24 rfl rfl)<|We ?_
     refine WA.two (i:=8) (j:=9) (bm 12 511) (bm 12 767) rfl rfl kr rfl rfl ?_ ?_
     ·refine Lo 0 S<|We<|WA.one (i:=9) (bm 12 1023) rfl kr rfl ?_
      refine W.store (i:=1) [(int u),(int t),(str x),p,(str ab)] S rfl rfl rfl lay24 rfl (AllOne.all (l:=[(int u),(int t),(str x),p,(str ab)]) (.cons rfl (.cons rfl (.cons rfl (.cons (Sl.oneC z) (.cons rfl .nil)))))) (Nat.le_of_ble_eq_true rfl) rfl ?_
      intro bz S
      refine We ?_
      refine WA.take (i:=10) (bm 12 2047) rfl kr kr kr rfl (fun _=>(R.as (v:=int (wr (m9+bj.1))) rfl)) ?_
      refine WA.take (i:=11) (bm 12 4095) rfl kr kr kr rfl (fun _=>(R.as (v:=int 0) rfl))<|WA.done kr ?_
      obtain rfl:=oi h
      refine WP.ret (Out.three rfl S (Res.cellB (i:=1) (cs:=[(int u),(int t),(str x),p,(str ab)]) S rfl rfl lay24 rfl rfl) rfl rfl ?_)
      exact ⟨_,rfl,z⟩
     refine W.store (i:=1) [(int u),(int t),(str x),p,(str ab)] S rfl rfl rfl lay24 rfl (AllOne.all (l:=[(int u),(int t),(str x),p,(str ab)]) (.cons rfl (.cons rfl (.cons rfl (.cons (Sl.oneC z) (.cons rfl .nil)))))) (Nat.le_of_ble_eq_true rfl) rfl ?_
     intro bz S
     refine We<|WA.one (i:=8) (bm 12 1023) rfl kr rfl ?_
     refine Lo 0 S<|We ?_
     refine WA.take (i:=10) (bm 12 2047) rfl kr kr kr rfl (fun _=>(R.as (v:=int (wr (m9+bj.1))) rfl)) ?_
     refine WA.take (i:=11) (bm 12 4095) rfl kr kr kr rfl (fun _=>(R.as (v:=int 0) rfl))<|WA.done kr ?_
     obtain rfl:=oi h
     refine WP.ret (Out.three rfl S (Res.cellB (i:=1) (cs:=[(int u),(int t),(str x),p,(str ab)]) S rfl rfl lay24 rfl rfl) rfl rfl ?_)
     exact ⟨_,rfl,z⟩
    refine Lo 0 S<|We<|WA.one (i:=3) (bm 12 511) rfl kr rfl ?_
    refine WL.w (R.loadBN (i:=0) (vs:=[(int u),(int t),(str x),p,(str ab)]) S rfl rfl lay24 rfl rfl)<|We<|WA.one (i:=9) (bm 12 1023) rfl kr rfl ?_
    refine W.store (i:=1) [(int u),(int t),(str x),p,(str ab)] S rfl rfl rfl lay24 rfl (AllOne.all (l:=[(int u),(int t),(str x),p,(str ab)]) (.cons rfl (.cons rfl (.cons rfl (.cons (Sl.oneC z) (.cons rfl .nil)))))) (Nat.le_of_ble_eq_true rfl) rfl ?_
    intro bz S
    refine We ?_
    refine WA.take (i:=10) (bm 12 2047) rfl kr kr kr rfl (fun _=>(R.as (v:=int (wr (m9+bj.1))) rfl)) ?_
    refine WA.take (i:=11) (bm 12 4095) rfl kr kr kr rfl (fun _=>(R.as (v:=int 0) rfl))<|WA.done kr ?_
    obtain rfl:=oi h
    refine WP.ret (Out.three rfl S (Res.cellB (i:=1) (cs:=[(int u),(int t),(str x),p,(str ab)]) S rfl rfl lay24 rfl rfl) rfl rfl ?_)
    exact ⟨_,rfl,z⟩
   refine Lo 0 S<|We<|WA.one (i:=1) (bm 12 499) rfl kr rfl<|Nn<|We ?_
   refine WA.take (i:=2) (bm 12 503) rfl kr kr kr rfl (fun _=>(R.fieldB rfl zKE))<|WA.one (i:=3) (bm 12 511) rfl kr rfl ?_
   refine WL.w (R.loadBN (i:=0) (vs:=[(int u),(int t),(str x),p,(str ab)]) S rfl rfl lay24 rfl rfl)<|We<|WA.one (i:=9) (bm 12 1023) rfl kr rfl ?_
   refine W.store (i:=1) [(int u),(int t),(str x),p,(str ab)] S rfl rfl rfl lay24 rfl (AllOne.all (l:=[(int u),(int t),(str x),p,(str ab)]) (.cons rfl (.cons rfl (.cons rfl (.cons (Sl.oneC z) (.cons rfl .nil)))))) (Nat.le_of_ble_eq_true rfl) rfl ?_
   intro bz S
   refine We ?_
   refine WA.take (i:=10) (bm 12 2047) rfl kr kr kr rfl (fun _=>(R.as (v:=int (wr (m9+bj.1))) rfl)) ?_
   refine WA.take (i:=11) (bm 12 4095) rfl kr kr kr rfl (fun _=>(R.as (v:=int 0) rfl))<|WA.done kr ?_
   obtain rfl:=oi h
   refine WP.ret (Out.three rfl S (Res.cellB (i:=1) (cs:=[(int u),(int t),(str x),p,(str ab)]) S rfl rfl lay24 rfl rfl) rfl rfl ?_)
   exact ⟨_,rfl,z⟩
  refine CF d4 ?_
  cases h
 refine CF d1 ?_
 cases h
end Go.Proofs

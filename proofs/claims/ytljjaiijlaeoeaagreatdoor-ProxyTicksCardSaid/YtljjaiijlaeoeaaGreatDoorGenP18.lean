/- A part of the proof of laws of the seat: written by program over the translation. -/
import Derived.Test.YtljjaiijlaeoeaaGreatDoorEng38
import Derived.Test.YtljjaiijlaeoeaaGreatDoorEng36
import Derived.Test.YtljjaiijlaeoeaaGreatDoorGenP17
namespace Go.Proofs
set_option maxHeartbeats 4000000
set_option maxRecDepth 10000
open Go.Eng Go.Eng.Pure
set_option linter.unusedVariables false
theorem zIl {w0:World} {H0:Hp} (hw:Holds w0 H0) (hG:Tryz.Gl w0) {d:GConfig} {af:Str} {c:(GRequest×GURI×Unit)} {ac:Str} {b:(GResponse×Int×Int)} {r:Nat} {u:Nat} {k:Value} {ak:Nat} {ah:Nat} {ai:Nat} {t:Value} {p:Nat} {q:Nat} {ar:Hp} {w:World} (S:St w0 H0 w ar [.box ak 24 [(int b.1.fMinor),(int b.1.fStatus),(str b.1.fReason),k,(str b.1.fBody)],.box ah 56 [(str []),(str [])],.box ai 56 [(str []),(str af)],.box u 111 [(str c.1.fMethod),(str c.1.fTarget),(int c.1.fMinor),t,(str c.1.fBody),(str c.2.1.fHost),(int c.2.1.fPort),(str c.2.1.fPath),(str c.2.1.fQuery),(boo c.2.1.fHasQuery),(str ac),(int 0),(boo false),(int 0),(.slice none 0 0),(.slice none 0 0),(.slice none 0 0),(str []),(.slice none 0 0),(str []),(int 0),(int 0)],.box r 54 [(str d.fName),(int d.fBytes),(int d.fVariants),(int d.fTables),(boo d.fStrict),(boo d.fRefuse),(ptr p 0),(int 0),(.pointer none)],.box p 136 [(int d.fBytes),(int d.fVariants),(int d.fTables),(int 0),(.slice none 0 0),(mapv q)],.mp q []]) (au:Sl (α:=GField) ar k b.1.fFields) (bd:Sl (α:=GField) ar t c.1.fFields) {an:Str} {b1:Int} {b2:Int} {b3:(List Str)} {bu:GTable} (h:zCf d c ac b=some (an,b1,b2,b3,bu)) {K:Value→World→Prop}
  (hK:∀ (bv:Ent) (z:Nat) (bw:Value) (bx:Value) (bz:Value) (Hz:Hp),ar.le Hz→MR (α:=Str) Hz bv 9 bw b3→Sl (α:=GAxis) Hz bx bu.fAxes→Sl (α:=GEntry) Hz bz bu.fEntries→∀ w',St w0 H0 w' Hz [bv,.box z 56 [(str an),(str [])],.box ah 56 [(str []),(str [])],.box ai 56 [(str []),(str af)],.box r 54 [(str d.fName),(int d.fBytes),(int d.fVariants),(int d.fTables),(boo d.fStrict),(boo d.fRefuse),(ptr p 0),(int 0),(.pointer none)],.box p 136 [(int d.fBytes),(int d.fVariants),(int d.fTables),(int (wr (0+(wr (b1 - b2))))),bw,(mapv q)],.mp q (encm (fun v=>v) [(ac,(agg [bx,bz]))])]→K (agg [(str an),(str [])]) w') :
  CallK Tryz.prog 61 [(ptr r 0),(ptr u 0),(agg [(int b.1.fMinor),(int b.1.fStatus),(str b.1.fReason),k,(str b.1.fBody)])] w K:=by
 unfold zCf at h
 refine zBB (N':=109) Tryz.func61 rfl rfl kr rfl<|Ws<|Wg ?_
 refine W.box [(int b.1.fMinor),(int b.1.fStatus),(str b.1.fReason),k,(str b.1.fBody)] S rfl rfl ?_
 intro al dn S
 refine W.alloc [(str []),(str [])] S zer56 ?_
 intro z dp S
 refine We<|Ws<|Wg ?_
 refine WL.w (R.loadBN (i:=1) (vs:=[(int b.1.fMinor),(int b.1.fStatus),(str b.1.fReason),k,(str b.1.fBody)]) S rfl rfl lay24 rfl rfl) ?_
 refine W.alloc [(int 0),(int 0),(str []),(.slice none 0 0),(str [])] S zer24 ?_
 intro ao dq S
 refine W.store (i:=0) [(int b.1.fMinor),(int b.1.fStatus),(str b.1.fReason),k,(str b.1.fBody)] S rfl rfl rfl lay24 rfl (AllOne.all (l:=[(int b.1.fMinor),(int b.1.fStatus),(str b.1.fReason),k,(str b.1.fBody)]) (.cons rfl (.cons rfl (.cons rfl (.cons (Sl.oneC au) (.cons rfl .nil)))))) (Nat.le_of_ble_eq_true rfl) rfl ?_
 intro dr S
 refine We<|Ws<|B h fun cz c0 h=>B h fun b4 c1 h=>WP.cut (fun f w=>∃ (ax:Hp) (aj:Value),f 0=(ptr r 0)∧f 1=(ptr u 0)∧f 5=(ptr al 0)∧f 6=(ptr z 0)∧f 7=(ptr ao 0)∧Sl (α:=GField) ax aj b4∧Sl (α:=GField) ax k b.1.fFields∧Sl (α:=GField) ax t c.1.fFields∧Hp.le ar ax∧St w0 H0 w ax [.box ao 24 [(int b.1.fMinor),(int b.1.fStatus),(str b.1.fReason),aj,(str b.1.fBody)],.box z 56 [(str []),(str [])],.box al 24 [(int b.1.fMinor),(int b.1.fStatus),(str b.1.fReason),k,(str b.1.fBody)],.box ak 24 [(int b.1.fMinor),(int b.1.fStatus),(str b.1.fReason),k,(str b.1.fBody)],.box ah 56 [(str []),(str [])],.box ai 56 [(str []),(str af)],.box u 111 [(str c.1.fMethod),(str c.1.fTarget),(int c.1.fMinor),t,(str c.1.fBody),(str c.2.1.fHost),(int c.2.1.fPort),(str c.2.1.fPath),(str c.2.1.fQuery),(boo c.2.1.fHasQuery),(str ac),(int 0),(boo false),(int 0),(.slice none 0 0),(.slice none 0 0),(.slice none 0 0),(str []),(.slice none 0 0),(str []),(int 0),(int 0)],.box r 54 [(str d.fName),(int d.fBytes),(int d.fVariants),(int d.fTables),(boo d.fStrict),(boo d.fRefuse),(ptr p 0),(int 0),(.pointer none)],.box p 136 [(int d.fBytes),(int d.fVariants),(int d.fTables),(int 0),(.slice none 0 0),(mapv q)],.mp q []]) ?_ ?_
 ·refine WP.drawC (Cl w0 H0 ar [.box z 56 [(str []),(str [])],.box al 24 [(int b.1.fMinor),(int b.1.fStatus),(str b.1.fReason),k,(str b.1.fBody)],.box ak 24 [(int b.1.fMinor),(int b.1.fStatus),(str b.1.fReason),k,(str b.1.fBody)],.box ah 56 [(str []),(str [])],.box ai 56 [(str []),(str af)],.box u 111 [(str c.1.fMethod),(str c.1.fTarget),(int c.1.fMinor),t,(str c.1.fBody),(str c.2.1.fHost),(int c.2.1.fPort),(str c.2.1.fPath),(str c.2.1.fQuery),(boo c.2.1.fHasQuery),(str ac),(int 0),(boo false),(int 0),(.slice none 0 0),(.slice none 0 0),(.slice none 0 0),(str []),(.slice none 0 0),(str []),(int 0),(int 0)],.box r 54 [(str d.fName),(int d.fBytes),(int d.fVariants),(int d.fTables),(boo d.fStrict),(boo d.fRefuse),(ptr p 0),(int 0),(.pointer none)],.box p 136 [(int d.fBytes),(int d.fVariants),(int d.fTables),(int 0),(.slice none 0 0),(mapv q)],.mp q []]) kr 13 rfl (bm 13 0) rfl ?_
  have S:=S.drew
  refine WC.take (i:=0) (bm 13 1) rfl kr kr kr rfl (fun _ _=>(R.fieldB rfl zKm)) ?_
  refine WC.take (i:=1) (bm 13 3) rfl kr kr kr rfl (fun w hw=>by obtain ⟨_,hq,S⟩:=hw; exact (R.loadB (i:=1) (v:=k) S rfl rfl lay22 rfl)) ?_
  refine WC.take (i:=3) (bm 13 11) rfl kr kr kr rfl (fun _ _=>(R.fieldB rfl zLs)) ?_
  refine WC.take (i:=4) (bm 13 27) rfl kr kr kr rfl (fun w hw=>by obtain ⟨_,hq,S⟩:=hw; exact (R.loadB (i:=1) (v:=int b.1.fMinor) S rfl rfl lay3 rfl)) ?_
  refine WC.take (i:=5) (bm 13 59) rfl kr kr kr rfl (fun _ _=>(R.mv (v:=ptr r 0) rfl)) ?_
  refine WC.take (i:=6) (bm 13 123) rfl kr kr kr rfl (fun _ _=>(R.nilCheckB rfl)) ?_
  refine WC.take (i:=7) (bm 13 251) rfl kr kr kr rfl (fun _ _=>(R.fieldB rfl zKS)) ?_
  refine WC.take (i:=8) (bm 13 507) rfl kr kr kr rfl (fun _ _=>(R.fieldB rfl zK9)) ?_
  refine WC.take (i:=9) (bm 13 1019) rfl kr kr kr rfl (fun w hw=>by obtain ⟨_,hq,S⟩:=hw; exact (R.loadB (i:=6) (v:=str d.fName) S rfl rfl lay9 rfl)) ?_
  refine WC.next (rs:=[2]) ⟨ar,(Hp.le.refl _),S.drop _ (.cons _ (.cons_cons _ (.cons_cons _ (.cons_cons _ (.cons_cons _ (.cons_cons _ (.cons_cons _ (.cons_cons _ (.cons_cons _ (.cons_cons _ .slnil))))))))))⟩ kr (List.cons_ne_nil _ _) (all1 ?_)
  refine Nxt.mk (o:=_) (bm 13 1023) rfl rfl<|W.call S rfl (zAR S.holds (hG.post S.post) b.1.fFields au c0) ?_
  rintro ds dt c2 ay S c3
  have au:=Sl.mono au ay
  have bd:=Sl.mono bd ay
  refine We ?_
  refine WC.next (rs:=[10]) ⟨c2,ay,S.drop _ (.cons _ (.cons_cons _ (.cons_cons _ (.cons_cons _ (.cons_cons _ (.cons_cons _ (.cons_cons _ (.cons_cons _ (.cons_cons _ (.cons_cons _ .slnil))))))))))⟩ kr (List.cons_ne_nil _ _) (all1 ?_)
  refine Nxt.mk (o:=_) (bm 13 2047) rfl rfl<|W.call S rfl (zNO S.holds (hG.post S.post) cz b.1.fMinor d.fName c3 c1) ?_
  rintro b0 du be bf S ci
  have au:=Sl.mono au bf
  have bd:=Sl.mono bd bf
  refine We ?_
  refine WC.take (i:=11) (bm 13 4095) rfl kr kr kr rfl (fun _ _=>(R.fieldB rfl zKm)) ?_
  refine WC.next (rs:=[12]) ⟨be,(ay.trans bf),S.drop _ (.cons _ (.cons_cons _ (.cons_cons _ (.cons_cons _ (.cons_cons _ (.cons_cons _ (.cons_cons _ (.cons_cons _ (.cons_cons _ (.cons_cons _ .slnil))))))))))⟩ kr (List.cons_ne_nil _ _) (all1 ?_)
  refine Nxt.mk (o:=_) (bm 13 8191) rfl rfl ?_
  refine W.storeSl (α:=GField) (i:=0) [(int b.1.fMinor),(int b.1.fStatus),(str b.1.fReason),b0,(str b.1.fBody)] S ci rfl rfl rfl lay22 (Nat.le_of_ble_eq_true rfl) rfl ?_
  intro dv S
  refine We<|WC.done ⟨be,(ay.trans bf),S.drop _ (.cons _ (.cons_cons _ (.cons_cons _ (.cons_cons _ (.cons_cons _ (.cons_cons _ (.cons_cons _ (.cons_cons _ (.cons_cons _ (.cons_cons _ .slnil))))))))))⟩ kr ?_
  have S3:=S
  replace S3:=S3.front 9 rfl
  replace S3:=S3.front 9 rfl
  replace S3:=S3.front 9 rfl
  replace S3:=S3.front 9 rfl
  replace S3:=S3.front 9 rfl
  replace S3:=S3.front 9 rfl
  replace S3:=S3.front 9 rfl
  replace S3:=S3.front 9 rfl
  replace S3:=S3.front 9 rfl
  replace S3:=S3.front 9 rfl
  replace S3:St w0 H0 _ be [.box ao 24 [(int b.1.fMinor),(int b.1.fStatus),(str b.1.fReason),b0,(str b.1.fBody)],.box z 56 [(str []),(str [])],.box al 24 [(int b.1.fMinor),(int b.1.fStatus),(str b.1.fReason),k,(str b.1.fBody)],.box ak 24 [(int b.1.fMinor),(int b.1.fStatus),(str b.1.fReason),k,(str b.1.fBody)],.box ah 56 [(str []),(str [])],.box ai 56 [(str []),(str af)],.box u 111 [(str c.1.fMethod),(str c.1.fTarget),(int c.1.fMinor),t,(str c.1.fBody),(str c.2.1.fHost),(int c.2.1.fPort),(str c.2.1.fPath),(str c.2.1.fQuery),(boo c.2.1.fHasQuery),(str ac),(int 0),(boo false),(int 0),(.slice none 0 0),(.slice none 0 0),(.slice none 0 0),(str []),(.slice none 0 0),(str []),(int 0),(int 0)],.box r 54 [(str d.fName),(int d.fBytes),(int d.fVariants),(int d.fTables),(boo d.fStrict),(boo d.fRefuse),(ptr p 0),(int 0),(.pointer none)],.box p 136 [(int d.fBytes),(int d.fVariants),(int d.fTables),(int 0),(.slice none 0 0),(mapv q)],.mp q []]:=S3
  replace S3:St w0 H0 _ be [.box ao 24 [(int b.1.fMinor),(int b.1.fStatus),(str b.1.fReason),b0,(str b.1.fBody)],.box z 56 [(str []),(str [])],.box al 24 [(int b.1.fMinor),(int b.1.fStatus),(str b.1.fReason),k,(str b.1.fBody)],.box ak 24 [(int b.1.fMinor),(int b.1.fStatus),(str b.1.fReason),k,(str b.1.fBody)],.box ah 56 [(str []),(str [])],.box ai 56 [(str []),(str af)],.box u 111 [(str c.1.fMethod),(str c.1.fTarget),(int c.1.fMinor),t,(str c.1.fBody),(str c.2.1.fHost),(int c.2.1.fPort),(str c.2.1.fPath),(str c.2.1.fQuery),(boo c.2.1.fHasQuery),(str ac),(int 0),(boo false),(int 0),(.slice none 0 0),(.slice none 0 0),(.slice none 0 0),(str []),(.slice none 0 0),(str []),(int 0),(int 0)],.box r 54 [(str d.fName),(int d.fBytes),(int d.fVariants),(int d.fTables),(boo d.fStrict),(boo d.fRefuse),(ptr p 0),(int 0),(.pointer none)],.box p 136 [(int d.fBytes),(int d.fVariants),(int d.fTables),(int 0),(.slice none 0 0),(mapv q)],.mp q []]:=S3.drop _ (.cons_cons _ (.cons_cons _ (.cons_cons _ (.cons_cons _ (.cons_cons _ (.cons_cons _ (.cons_cons _ (.cons_cons _ (.cons_cons _ (.cons_cons _ .slnil))))))))))
  exact ⟨be,b0,rfl,rfl,rfl,rfl,rfl,ci,au,bd,(ay.trans bf),S3⟩
 rintro f w ⟨ax,aj,b5,av,b6,cj,ck,ae,aa,x,cl,S⟩
 refine Ws<|Wg<|Fb' ck ?_
 refine W.store (i:=0) [(int 1),(int b.1.fStatus),(str b.1.fReason),aj,(str b.1.fBody)] S rfl rfl rfl lay3 rfl rfl (Nat.le_of_ble_eq_true rfl) rfl ?_
 intro dw S
 refine We<|Ws<|WP.quiet S kr kr<|QM' av<|QNn<|QFb ?_
 refine WQ.val (fun w hw=>by obtain ⟨_,hq,S⟩:=hw; exact (R.loadBN (i:=6) (vs:=[(str c.1.fMethod),(str c.1.fTarget),(int c.1.fMinor),t,(str c.1.fBody)]) S rfl rfl lay94 rfl rfl)) ?_
 refine WQ.val (fun w hw=>by obtain ⟨_,hq,S⟩:=hw; exact (R.loadBN (i:=0) (vs:=[(int 1),(int b.1.fStatus),(str b.1.fReason),aj,(str b.1.fBody)]) S ck rfl lay24 rfl rfl))<|B h fun an c4 h=>WQ.call (v:=str an) rfl (fun w H' hq S=>zHC S.holds (hG.post S.post) c.1 (⟨1,b.1.fStatus,b.1.fReason,b4,b.1.fBody⟩:GResponse) (Sl.mono x hq) (Sl.mono ae hq) c4)<|QA<|WQ.nil ?_
 intro dx dy bg S
 have x:=Sl.mono x bg
 have ae:=Sl.mono ae bg
 have aa:=Sl.mono aa bg
 refine Ws<|Ws<|Wg<|M<|Na<|We ?_
 rcases condE h with ⟨b7,h⟩ | ⟨b7,h⟩
 ·refine CT b7 ?_
  cases h
 refine CF b7<|Wk<|Ws<|Ws<|WP.quiet S kr kr<|QM' av<|QNn<|QFb<|QFb ?_
 refine WQ.val (fun w hw=>by obtain ⟨_,hq,S⟩:=hw; exact (R.loadB (i:=6) (v:=str c.1.fMethod) S rfl rfl lay9 rfl))<|QFb' b6 ?_
 refine WQ.val (fun w hw=>by obtain ⟨_,hq,S⟩:=hw; exact (R.loadB (i:=2) (v:=int b.1.fStatus) S rfl rfl lay3 rfl))<|B h fun c5 c6 h=>WQ.call (v:=boo c5) rfl (fun w H' hq S=>zOG S.holds (hG.post S.post) c.1.fMethod b.1.fStatus c6)<|WQ.nil ?_
 intro dz d0 bh S
 have x:=Sl.mono x bh
 have ae:=Sl.mono ae bh
 have aa:=Sl.mono aa bh
 rcases condE h with ⟨b8,h⟩ | ⟨b8,h⟩
 ·refine CT b8 ?_
  cases h
 refine CF b8<|Wk<|Ws<|Ws<|WP.quiet S kr kr<|QM' av<|QNn<|QFb ?_
 refine WQ.val (fun w hw=>by obtain ⟨_,hq,S⟩:=hw; exact (R.loadBN (i:=6) (vs:=[(str c.1.fMethod),(str c.1.fTarget),(int c.1.fMinor),t,(str c.1.fBody)]) S rfl rfl lay94 rfl rfl)) ?_
 refine WQ.val (fun w hw=>by obtain ⟨_,hq,S⟩:=hw; exact (R.loadBN (i:=2) (vs:=[(int b.1.fMinor),(int b.1.fStatus),(str b.1.fReason),k,(str b.1.fBody)]) S b6 rfl lay24 rfl rfl))<|B h fun c7 c8 h=>WQ.call (v:=boo c7) rfl (fun w H' hq S=>zHd S.holds (hG.post S.post) c.1 b.1 (Sl.mono x hq) (Sl.mono aa hq) c8)<|WQ.nil ?_
 intro d1 b9 bi S
 have x:=Sl.mono x bi
 have ae:=Sl.mono ae bi
 have aa:=Sl.mono aa bi
 rcases condE h with ⟨ca,h⟩ | ⟨ca,h⟩
 ·refine CT ca<|Ws<|B h fun j cm h=>WP.cut (fun f w=>∃ (am:Hp) (cb:Nat) (cc:Value) (bj:Value) (bk:Value) (bn:Value) (bo:Value),f 0=(ptr r 0)∧f 1=(ptr u 0)∧f 6=(ptr z 0)∧f 8=(str an)∧f 11=(ptr cb 0)∧f 12=cc∧Sl (α:=GAxis) am cc j.2∧Sl (α:=(List Str)) am bj j.1.fKeys∧Sl (α:=Str) am bk j.1.fVary∧Sl (α:=Str) am bn j.1.fSnapshot∧Sl (α:=GField) am bo j.1.fFields∧Sl (α:=GField) am aj b4∧Sl (α:=GField) am k b.1.fFields∧Sl (α:=GField) am t c.1.fFields∧Hp.le ar am∧St w0 H0 w am [.box cb 92 [bj,bk,bn,(str j.1.fReason),bo,(str j.1.fBody),(int j.1.fRequested),(int j.1.fReceived)],.box ao 24 [(int 1),(int b.1.fStatus),(str b.1.fReason),aj,(str b.1.fBody)],.box z 56 [(str []),(str [])],.box al 24 [(int b.1.fMinor),(int b.1.fStatus),(str b.1.fReason),k,(str b.1.fBody)],.box ak 24 [(int b.1.fMinor),(int b.1.fStatus),(str b.1.fReason),k,(str b.1.fBody)],.box ah 56 [(str []),(str [])],.box ai 56 [(str []),(str af)],.box u 111 [(str c.1.fMethod),(str c.1.fTarget),(int c.1.fMinor),t,(str c.1.fBody),(str c.2.1.fHost),(int c.2.1.fPort),(str c.2.1.fPath),(str c.2.1.fQuery),(boo c.2.1.fHasQuery),(str ac),(int 0),(boo false),(int 0),(.slice none 0 0),(.slice none 0 0),(.slice none 0 0),(str []),(.slice none 0 0),(str []),(int 0),(int 0)],.box r 54 [(str d.fName),(int d.fBytes),(int d.fVariants),(int d.fTables),(boo d.fStrict),(boo d.fRefuse),(ptr p 0),(int 0),(.pointer none)],.box p 136 [(int d.fBytes),(int d.fVariants),(int d.fTables),(int 0),(.slice none 0 0),(mapv q)],.mp q []]) ?_ ?_
  ·refine WP.drawC (Cl w0 H0 b9 [.box ao 24 [(int 1),(int b.1.fStatus),(str b.1.fReason),aj,(str b.1.fBody)],.box z 56 [(str []),(str [])],.box al 24 [(int b.1.fMinor),(int b.1.fStatus),(str b.1.fReason),k,(str b.1.fBody)],.box ak 24 [(int b.1.fMinor),(int b.1.fStatus),(str b.1.fReason),k,(str b.1.fBody)],.box ah 56 [(str []),(str [])],.box ai 56 [(str []),(str af)],.box u 111 [(str c.1.fMethod),(str c.1.fTarget),(int c.1.fMinor),t,(str c.1.fBody),(str c.2.1.fHost),(int c.2.1.fPort),(str c.2.1.fPath),(str c.2.1.fQuery),(boo c.2.1.fHasQuery),(str ac),(int 0),(boo false),(int 0),(.slice none 0 0),(.slice none 0 0),(.slice none 0 0),(str []),(.slice none 0 0),(str []),(int 0),(int 0)],.box r 54 [(str d.fName),(int d.fBytes),(int d.fVariants),(int d.fTables),(boo d.fStrict),(boo d.fRefuse),(ptr p 0),(int 0),(.pointer none)],.box p 136 [(int d.fBytes),(int d.fVariants),(int d.fTables),(int 0),(.slice none 0 0),(mapv q)],.mp q []]) kr 20 rfl (bm 20 0) rfl ?_
   have S:=S.drew
   refine WC.take (i:=0) (bm 20 1) rfl kr kr kr rfl (fun _ _=>(R.mv (v:=ptr u 0) av)) ?_
   refine WC.take (i:=1) (bm 20 3) rfl kr kr kr rfl (fun _ _=>(R.nilCheckB rfl)) ?_
   refine WC.take (i:=2) (bm 20 7) rfl kr kr kr rfl (fun _ _=>(R.fieldB rfl zLK)) ?_
   refine WC.take (i:=3) (bm 20 15) rfl kr kr kr rfl (fun w hw=>by obtain ⟨_,hq,S⟩:=hw; exact (R.loadBN (i:=6) (vs:=[(str c.1.fMethod),(str c.1.fTarget),(int c.1.fMinor),t,(str c.1.fBody)]) S rfl rfl lay94 rfl rfl)) ?_
   refine WC.take (i:=4) (bm 20 31) rfl kr kr kr rfl (fun w hw=>by obtain ⟨_,hq,S⟩:=hw; exact (R.loadBN (i:=2) (vs:=[(int b.1.fMinor),(int b.1.fStatus),(str b.1.fReason),k,(str b.1.fBody)]) S b6 rfl lay24 rfl rfl)) ?_
   refine WC.take (i:=5) (bm 20 63) rfl kr kr kr rfl (fun _ _=>(R.mv (v:=ptr u 0) av)) ?_
   refine WC.take (i:=6) (bm 20 127) rfl kr kr kr rfl (fun _ _=>(R.nilCheckB rfl)) ?_
   refine WC.take (i:=7) (bm 20 255) rfl kr kr kr rfl (fun _ _=>(R.fieldB rfl zLI)) ?_
   refine WC.take (i:=8) (bm 20 511) rfl kr kr kr rfl (fun w hw=>by obtain ⟨_,hq,S⟩:=hw; exact (R.loadB (i:=6) (v:=int 0) S rfl rfl lay2 rfl)) ?_
   refine WC.take (i:=9) (bm 20 1023) rfl kr kr kr rfl (fun _ _=>(R.mv (v:=ptr r 0) b5)) ?_
   refine WC.take (i:=10) (bm 20 2047) rfl kr kr kr rfl (fun _ _=>(R.nilCheckB rfl)) ?_
   refine WC.take (i:=11) (bm 20 4095) rfl kr kr kr rfl (fun _ _=>(R.fieldB rfl zKJ)) ?_
   refine WC.take (i:=12) (bm 20 8191) rfl kr kr kr rfl (fun w hw=>by obtain ⟨_,hq,S⟩:=hw; exact (R.loadB (i:=7) (v:=int 0) S rfl rfl lay2 rfl)) ?_
   refine WC.next (rs:=[13,17]) ⟨b9,(Hp.le.refl _),S.drop _ (.cons_cons _ (.cons_cons _ (.cons_cons _ (.cons_cons _ (.cons_cons _ (.cons_cons _ (.cons_cons _ (.cons_cons _ (.cons_cons _ (.cons_cons _ .slnil))))))))))⟩ kr (List.cons_ne_nil _ _) (allS ?_ (all1 ?_))
   ·refine Nxt.mk (o:=_) (bm 20 16383) rfl rfl<|W.call S rfl (zIQ S.holds (hG.post S.post) c.1 b.1 0 0 x aa cm) ?_
    rintro d2 d3 az aw S ⟨a0,a1,a2,a3,cd,rfl,cn,co,cp,cq,c9⟩
    have x:=Sl.mono x aw
    have ae:=Sl.mono ae aw
    have aa:=Sl.mono aa aw
    refine We ?_
    refine WC.take (i:=14) (bm 20 32767) rfl kr kr kr rfl (fun _ _=>(R.mv (v:=.tuple ⟨[(agg [a0,a1,a2,(str j.1.fReason),a3,(str j.1.fBody),(int j.1.fRequested),(int j.1.fReceived)]),cd]⟩) rfl)) ?_
    refine WC.take (i:=15) (bm 20 65535) rfl kr kr kr rfl (fun _ _=>(R.ext rfl rfl)) ?_
    refine WC.take (i:=16) (bm 20 131071) rfl kr kr kr rfl (fun _ _=>(R.ext rfl rfl)) ?_
    refine WC.next (rs:=[17]) ⟨az,aw,S.drop _ (.cons_cons _ (.cons_cons _ (.cons_cons _ (.cons_cons _ (.cons_cons _ (.cons_cons _ (.cons_cons _ (.cons_cons _ (.cons_cons _ (.cons_cons _ .slnil))))))))))⟩ kr (List.cons_ne_nil _ _) (all1 ?_)
    refine Nxt.mk (o:=_) (bm 20 262143) rfl rfl ?_
    refine W.alloc [(.slice none 0 0),(.slice none 0 0),(.slice none 0 0),(str []),(.slice none 0 0),(str []),(int 0),(int 0)] S zer92 ?_
    intro ce d4 S
    refine We ?_
    refine WC.next (rs:=[18]) ⟨az,aw,S.drop _ (.cons _ (.cons_cons _ (.cons_cons _ (.cons_cons _ (.cons_cons _ (.cons_cons _ (.cons_cons _ (.cons_cons _ (.cons_cons _ (.cons_cons _ (.cons_cons _ .slnil)))))))))))⟩ kr (List.cons_ne_nil _ _) (all1 ?_)
    refine Nxt.mk (o:=_) (bm 20 524287) rfl rfl ?_
    refine W.store (i:=0) [a0,a1,a2,(str j.1.fReason),a3,(str j.1.fBody),(int j.1.fRequested),(int j.1.fReceived)] S rfl rfl rfl lay92 rfl (AllOne.all (l:=[a0,a1,a2,(str j.1.fReason),a3,(str j.1.fBody),(int j.1.fRequested),(int j.1.fReceived)]) (.cons (Sl.oneC cn) (.cons (Sl.oneC co) (.cons (Sl.oneC cp) (.cons rfl (.cons (Sl.oneC cq) (.cons rfl (.cons rfl (.cons rfl .nil))))))))) (Nat.le_of_ble_eq_true rfl) rfl ?_
    intro d5 S
    refine We ?_
    refine WC.take (i:=19) (bm 20 1048575) rfl kr kr kr rfl (fun _ _=>(R.as (v:=cd) rfl))<|WC.done ⟨az,aw,S.drop _ (.cons _ (.cons_cons _ (.cons_cons _ (.cons_cons _ (.cons_cons _ (.cons_cons _ (.cons_cons _ (.cons_cons _ (.cons_cons _ (.cons_cons _ (.cons_cons _ .slnil)))))))))))⟩ kr ?_
    have S3:=S
    replace S3:=S3.front 10 rfl
    replace S3:=S3.front 10 rfl
    replace S3:=S3.front 10 rfl
    replace S3:=S3.front 10 rfl
    replace S3:=S3.front 10 rfl
    replace S3:=S3.front 10 rfl
    replace S3:=S3.front 10 rfl
    replace S3:=S3.front 10 rfl
    replace S3:=S3.front 10 rfl
    replace S3:=S3.front 10 rfl
    replace S3:=S3.front 10 rfl
    replace S3:St w0 H0 _ az [.box ce 92 [a0,a1,a2,(str j.1.fReason),a3,(str j.1.fBody),(int j.1.fRequested),(int j.1.fReceived)],.box ao 24 [(int 1),(int b.1.fStatus),(str b.1.fReason),aj,(str b.1.fBody)],.box z 56 [(str []),(str [])],.box al 24 [(int b.1.fMinor),(int b.1.fStatus),(str b.1.fReason),k,(str b.1.fBody)],.box ak 24 [(int b.1.fMinor),(int b.1.fStatus),(str b.1.fReason),k,(str b.1.fBody)],.box ah 56 [(str []),(str [])],.box ai 56 [(str []),(str af)],.box u 111 [(str c.1.fMethod),(str c.1.fTarget),(int c.1.fMinor),t,(str c.1.fBody),(str c.2.1.fHost),(int c.2.1.fPort),(str c.2.1.fPath),(str c.2.1.fQuery),(boo c.2.1.fHasQuery),(str ac),(int 0),(boo false),(int 0),(.slice none 0 0),(.slice none 0 0),(.slice none 0 0),(str []),(.slice none 0 0),(str []),(int 0),(int 0)],.box r 54 [(str d.fName),(int d.fBytes),(int d.fVariants),(int d.fTables),(boo d.fStrict),(boo d.fRefuse),(ptr p 0),(int 0),(.pointer none)],.box p 136 [(int d.fBytes),(int d.fVariants),(int d.fTables),(int 0),(.slice none 0 0),(mapv q)],.mp q []]:=S3
    replace S3:St w0 H0 _ az [.box ce 92 [a0,a1,a2,(str j.1.fReason),a3,(str j.1.fBody),(int j.1.fRequested),(int j.1.fReceived)],.box ao 24 [(int 1),(int b.1.fStatus),(str b.1.fReason),aj,(str b.1.fBody)],.box z 56 [(str []),(str [])],.box al 24 [(int b.1.fMinor),(int b.1.fStatus),(str b.1.fReason),k,(str b.1.fBody)],.box ak 24 [(int b.1.fMinor),(int b.1.fStatus),(str b.1.fReason),k,(str b.1.fBody)],.box ah 56 [(str []),(str [])],.box ai 56 [(str []),(str af)],.box u 111 [(str c.1.fMethod),(str c.1.fTarget),(int c.1.fMinor),t,(str c.1.fBody),(str c.2.1.fHost),(int c.2.1.fPort),(str c.2.1.fPath),(str c.2.1.fQuery),(boo c.2.1.fHasQuery),(str ac),(int 0),(boo false),(int 0),(.slice none 0 0),(.slice none 0 0),(.slice none 0 0),(str []),(.slice none 0 0),(str []),(int 0),(int 0)],.box r 54 [(str d.fName),(int d.fBytes),(int d.fVariants),(int d.fTables),(boo d.fStrict),(boo d.fRefuse),(ptr p 0),(int 0),(.pointer none)],.box p 136 [(int d.fBytes),(int d.fVariants),(int d.fTables),(int 0),(.slice none 0 0),(mapv q)],.mp q []]:=S3.drop _ (.cons_cons _ (.cons_cons _ (.cons_cons _ (.cons_cons _ (.cons_cons _ (.cons_cons _ (.cons_cons _ (.cons_cons _ (.cons_cons _ (.cons_cons _ (.cons_cons _ .slnil)))))))))))
    exact ⟨az,ce,cd,a0,a1,a2,a3,b5,av,cj,rfl,rfl,rfl,c9,cn,co,cp,cq,ae,aa,x,((((cl.trans bg).trans bh).trans bi).trans aw),S3⟩
   refine Nxt.mk (o:=_) (bm 20 139263) rfl rfl ?_
   refine W.alloc [(.slice none 0 0),(.slice none 0 0),(.slice none 0 0),(str []),(.slice none 0 0),(str []),(int 0),(int 0)] S zer92 ?_
   intro cf d6 S
   refine We ?_
   refine WC.next (rs:=[13]) ⟨b9,(Hp.le.refl _),S.drop _ (.cons _ (.cons_cons _ (.cons_cons _ (.cons_cons _ (.cons_cons _ (.cons_cons _ (.cons_cons _ (.cons_cons _ (.cons_cons _ (.cons_cons _ (.cons_cons _ .slnil)))))))))))⟩ kr (List.cons_ne_nil _ _) (all1 ?_)
   refine Nxt.mk (o:=_) (bm 20 147455) rfl rfl<|W.call S rfl (zIQ S.holds (hG.post S.post) c.1 b.1 0 0 x aa cm) ?_
   rintro d7 d8 bp a4 S ⟨a5,a6,a7,a8,cg,rfl,cr,ct,cu,cv,da⟩
   have x:=Sl.mono x a4
   have ae:=Sl.mono ae a4
   have aa:=Sl.mono aa a4
   refine We ?_
   refine WC.take (i:=14) (bm 20 163839) rfl kr kr kr rfl (fun _ _=>(R.mv (v:=.tuple ⟨[(agg [a5,a6,a7,(str j.1.fReason),a8,(str j.1.fBody),(int j.1.fRequested),(int j.1.fReceived)]),cg]⟩) rfl)) ?_
   refine WC.take (i:=15) (bm 20 196607) rfl kr kr kr rfl (fun _ _=>(R.ext rfl rfl)) ?_
   refine WC.take (i:=16) (bm 20 262143) rfl kr kr kr rfl (fun _ _=>(R.ext rfl rfl)) ?_
   refine WC.next (rs:=[18]) ⟨bp,a4,S.drop _ (.cons _ (.cons_cons _ (.cons_cons _ (.cons_cons _ (.cons_cons _ (.cons_cons _ (.cons_cons _ (.cons_cons _ (.cons_cons _ (.cons_cons _ (.cons_cons _ .slnil)))))))))))⟩ kr (List.cons_ne_nil _ _) (all1 ?_)
   refine Nxt.mk (o:=_) (bm 20 524287) rfl rfl ?_
   refine W.store (i:=0) [a5,a6,a7,(str j.1.fReason),a8,(str j.1.fBody),(int j.1.fRequested),(int j.1.fReceived)] S rfl rfl rfl lay92 rfl (AllOne.all (l:=[a5,a6,a7,(str j.1.fReason),a8,(str j.1.fBody),(int j.1.fRequested),(int j.1.fReceived)]) (.cons (Sl.oneC cr) (.cons (Sl.oneC ct) (.cons (Sl.oneC cu) (.cons rfl (.cons (Sl.oneC cv) (.cons rfl (.cons rfl (.cons rfl .nil))))))))) (Nat.le_of_ble_eq_true rfl) rfl ?_
   intro d9 S
   refine We ?_
   refine WC.take (i:=19) (bm 20 1048575) rfl kr kr kr rfl (fun _ _=>(R.as (v:=cg) rfl))<|WC.done ⟨bp,a4,S.drop _ (.cons _ (.cons_cons _ (.cons_cons _ (.cons_cons _ (.cons_cons _ (.cons_cons _ (.cons_cons _ (.cons_cons _ (.cons_cons _ (.cons_cons _ (.cons_cons _ .slnil)))))))))))⟩ kr ?_
   have S3:=S
   replace S3:=S3.front 10 rfl
   replace S3:=S3.front 10 rfl
   replace S3:=S3.front 10 rfl
   replace S3:=S3.front 10 rfl
   replace S3:=S3.front 10 rfl
   replace S3:=S3.front 10 rfl
   replace S3:=S3.front 10 rfl
   replace S3:=S3.front 10 rfl
   replace S3:=S3.front 10 rfl
   replace S3:=S3.front 10 rfl
   replace S3:=S3.front 10 rfl
   replace S3:St w0 H0 _ bp [.box cf 92 [a5,a6,a7,(str j.1.fReason),a8,(str j.1.fBody),(int j.1.fRequested),(int j.1.fReceived)],.box ao 24 [(int 1),(int b.1.fStatus),(str b.1.fReason),aj,(str b.1.fBody)],.box z 56 [(str []),(str [])],.box al 24 [(int b.1.fMinor),(int b.1.fStatus),(str b.1.fReason),k,(str b.1.fBody)],.box ak 24 [(int b.1.fMinor),(int b.1.fStatus),(str b.1.fReason),k,(str b.1.fBody)],.box ah 56 [(str []),(str [])],.box ai 56 [(str []),(str af)],.box u 111 [(str c.1.fMethod),(str c.1.fTarget),(int c.1.fMinor),t,(str c.1.fBody),(str c.2.1.fHost),(int c.2.1.fPort),(str c.2.1.fPath),(str c.2.1.fQuery),(boo c.2.1.fHasQuery),(str ac),(int 0),(boo false),(int 0),(.slice none 0 0),(.slice none 0 0),(.slice none 0 0),(str []),(.slice none 0 0),(str []),(int 0),(int 0)],.box r 54 [(str d.fName),(int d.fBytes),(int d.fVariants),(int d.fTables),(boo d.fStrict),(boo d.fRefuse),(ptr p 0),(int 0),(.pointer none)],.box p 136 [(int d.fBytes),(int d.fVariants),(int d.fTables),(int 0),(.slice none 0 0),(mapv q)],.mp q []]:=S3
   replace S3:St w0 H0 _ bp [.box cf 92 [a5,a6,a7,(str j.1.fReason),a8,(str j.1.fBody),(int j.1.fRequested),(int j.1.fReceived)],.box ao 24 [(int 1),(int b.1.fStatus),(str b.1.fReason),aj,(str b.1.fBody)],.box z 56 [(str []),(str [])],.box al 24 [(int b.1.fMinor),(int b.1.fStatus),(str b.1.fReason),k,(str b.1.fBody)],.box ak 24 [(int b.1.fMinor),(int b.1.fStatus),(str b.1.fReason),k,(str b.1.fBody)],.box ah 56 [(str []),(str [])],.box ai 56 [(str []),(str af)],.box u 111 [(str c.1.fMethod),(str c.1.fTarget),(int c.1.fMinor),t,(str c.1.fBody),(str c.2.1.fHost),(int c.2.1.fPort),(str c.2.1.fPath),(str c.2.1.fQuery),(boo c.2.1.fHasQuery),(str ac),(int 0),(boo false),(int 0),(.slice none 0 0),(.slice none 0 0),(.slice none 0 0),(str []),(.slice none 0 0),(str []),(int 0),(int 0)],.box r 54 [(str d.fName),(int d.fBytes),(int d.fVariants),(int d.fTables),(boo d.fStrict),(boo d.fRefuse),(ptr p 0),(int 0),(.pointer none)],.box p 136 [(int d.fBytes),(int d.fVariants),(int d.fTables),(int 0),(.slice none 0 0),(mapv q)],.mp q []]:=S3.drop _ (.cons_cons _ (.cons_cons _ (.cons_cons _ (.cons_cons _ (.cons_cons _ (.cons_cons _ (.cons_cons _ (.cons_cons _ (.cons_cons _ (.cons_cons _ (.cons_cons _ .slnil)))))))))))
   exact ⟨bp,cf,cg,a5,a6,a7,a8,b5,av,cj,rfl,rfl,rfl,da,cr,ct,cu,cv,ae,aa,x,((((cl.trans bg).trans bh).trans bi).trans a4),S3⟩
  rintro f w ⟨am,cb,cc,bj,bk,bn,bo,cw,db,cx,dc,cy,dd,bq,a9,ba,bb,bc,br,bs,bt,de,S⟩
  refine Ws<|WP.quiet S kr kr ?_
  refine WQ.val (fun w hw=>by obtain ⟨_,hq,S⟩:=hw; exact (R.loadBN (i:=0) (vs:=[bj,bk,bn,(str j.1.fReason),bo,(str j.1.fBody),(int j.1.fRequested),(int j.1.fReceived)]) S cy rfl lay92 rfl rfl))<|QM' cw<|QNn<|QFb<|QFb ?_
  refine WQ.val (fun w hw=>by obtain ⟨_,hq,S⟩:=hw; exact (R.loadB (i:=8) (v:=str d.fName) S rfl rfl lay9 rfl))<|B h fun df dg h=>WQ.call (v:=boo df) rfl (fun w H' hq S=>zI4 S.holds (hG.post S.post) j.1 d.fName (Sl.mono a9 hq) (Sl.mono ba hq) (Sl.mono bb hq) (Sl.mono bc hq) dg)<|WQ.nil ?_
  intro ea eb ap S
  have bq:=Sl.mono bq ap
  have a9:=Sl.mono a9 ap
  have ba:=Sl.mono ba ap
  have bb:=Sl.mono bb ap
  have bc:=Sl.mono bc ap
  have br:=Sl.mono br ap
  have bs:=Sl.mono bs ap
  have bt:=Sl.mono bt ap
  rcases condE h with ⟨ch,h⟩ | ⟨ch,h⟩
  ·refine CT ch<|WP.quietTail 10 S kr kr<|QM' cw<|QNn<|QFb ?_
   refine WQ.val (fun w hw=>by obtain ⟨_,hq,S⟩:=hw; exact (R.loadB (i:=8) (v:=ptr p 0) S rfl rfl lay51 rfl))<|QM' db<|QNn<|QFb ?_
   refine WQ.val (fun w hw=>by obtain ⟨_,hq,S⟩:=hw; exact (R.loadB (i:=7) (v:=str ac) S rfl rfl lay9 rfl)) ?_
   refine WQ.val (fun w hw=>by obtain ⟨_,hq,S⟩:=hw; exact (R.loadBN (i:=0) (vs:=[bj,bk,bn,(str j.1.fReason),bo,(str j.1.fBody),(int j.1.fRequested),(int j.1.fReceived)]) S cy rfl lay92 rfl rfl))<|QM' dd ?_
   refine WQ.nil ?_
   intro ec ed aq S
   have bq:=Sl.mono bq aq
   have a9:=Sl.mono a9 aq
   have ba:=Sl.mono ba aq
   have bb:=Sl.mono bb aq
   have bc:=Sl.mono bc aq
   have br:=Sl.mono br aq
   have bs:=Sl.mono bs aq
   have bt:=Sl.mono bt aq
   obtain ⟨⟨b1,b2,b3,bu⟩,dh,h⟩:=bindE h
   refine callK rfl (zIo hw (hG) S a9 ba bb bc bq br bs bt dh ?_)
   intro bv bw bx bz di dj dk dl dm ee S
   refine We<|Ws<|Wg<|M' dc ?_
   refine WL.w (R.build [(0,(str an))] [(str an),(str [])] bp56 zer56 rfl rfl) ?_
   refine W.store (i:=1) [(str an),(str [])] S cx rfl rfl lay56 rfl rfl (Nat.le_of_ble_eq_true rfl) rfl ?_
   intro ef S
   refine We ?_
   refine WP.ret (In.one rfl (Res.cellB (i:=1) (cs:=[(str an),(str [])]) S cx rfl lay56 rfl rfl) ?_)
   cases oi h
   exact hK bv z bw bx bz di (((de.trans ap).trans aq).trans dj) dk dl dm _ S
  refine CF ch ?_
  cases h
 refine CF ca ?_
 cases h
theorem zIx {t:World} {H0:Hp} (hw:Holds t H0) (hG:Tryz.Gl t) {c:GConfig} {aj:Str} {f:(GRequest×GURI×Unit)} {ab:Str} {u:Nat} {ak:Nat} {ar:Nat} {al:Value} {q:Nat} {r:Nat} {au:Hp} {w:World} (S:St t H0 w au [.box ak 56 [(str []),(str aj)],.box ar 111 [(str f.1.fMethod),(str f.1.fTarget),(int f.1.fMinor),al,(str f.1.fBody),(str f.2.1.fHost),(int f.2.1.fPort),(str f.2.1.fPath),(str f.2.1.fQuery),(boo f.2.1.fHasQuery),(str ab),(int 0),(boo false),(int 0),(.slice none 0 0),(.slice none 0 0),(.slice none 0 0),(str []),(.slice none 0 0),(str []),(int 0),(int 0)],.box u 54 [(str c.fName),(int c.fBytes),(int c.fVariants),(int c.fTables),(boo c.fStrict),(boo c.fRefuse),(ptr q 0),(int 0),(ptr ar 0)],.box q 136 [(int c.fBytes),(int c.fVariants),(int c.fTables),(int 0),(.slice none 0 0),(mapv r)],.mp r []]) (ac:Sl (α:=GField) au al f.1.fFields) {x:Str} {am:Int} {an:Int} {av:(List Str)} {ao:GTable} (h:zCd c f ab=some (x,am,an,av,ao)) {K:Value→World→Prop}
  (hK:∀ (ad:Ent) (ae:Nat) (af:Value) (ah:Value) (ai:Value) (Hz:Hp),au.le Hz→MR (α:=Str) Hz ad 9 af av→Sl (α:=GAxis) Hz ah ao.fAxes→Sl (α:=GEntry) Hz ai ao.fEntries→∀ w',St t H0 w' Hz [ad,.box ae 56 [(str x),(str [])],.box ak 56 [(str []),(str aj)],.box u 54 [(str c.fName),(int c.fBytes),(int c.fVariants),(int c.fTables),(boo c.fStrict),(boo c.fRefuse),(ptr q 0),(int 0),(.pointer none)],.box q 136 [(int c.fBytes),(int c.fVariants),(int c.fTables),(int (wr (0+(wr (am - an))))),af,(mapv r)],.mp r (encm (fun v=>v) [(ab,(agg [ah,ai]))])]→K (.tuple ⟨[(agg [(str x),(str [])]),(int 0)]⟩) w') :
  CallK Tryz.prog 27 [(ptr u 0),(str [72,84,84,80,47,49,46,49,32,50,48,48,32,79,75,13,10,67,97,99,104,101,45,67,111,110,116,114,111,108,58,32,109,97,120,45,97,103,101,61,54,48,13,10,67,111,110,116,101,110,116,45,76,101,110,103,116,104,58,32,49,13,10,13,10,120])] w K:=by
 unfold zCd at h
 refine zBB (N':=109) Tryz.func27 rfl rfl kr rfl<|Ws<|Wg ?_
 refine W.alloc [(str []),(str [])] S zer56 ?_
 intro ae bb S
 refine A<|We<|Ws<|Ws<|Wg<|M<|W.inl (args:=[(ptr u 0)]) rfl (N':=12) Tryz.func38 rfl rfl kr rfl<|Ws<|Wg<|A<|We<|Ws ?_
 refine Wg<|M ?_
 refine WL.w (v:=boo true) (R.ofEq (R.neqPN rfl rfl Tryz.underlying34) rfl)<|M<|Gy rfl<|M<|Gy rfl<|Nn<|Gy rfl<|Fb<|Gy rfl ?_
 refine Lo 3 S ?_
 refine Gy rfl ?_
 refine WL.w (v:=boo true) (R.ofEq (R.neqPN rfl rfl Tryz.underlying51) rfl)<|Pt rfl<|A<|We ?_
 refine WP.ret (In.one rfl rfl ?_)
 refine WL.w (v:=boo false) (R.ofEq (R.not rfl) rfl)<|M<|Gy rfl<|M<|Gy rfl<|Nn<|Gy rfl<|Fb<|Gy rfl ?_
 refine Lo 3 S<|Gy rfl ?_
 refine WL.w (v:=boo false) (R.ofEq (R.eqlPN rfl rfl Tryz.underlying52) rfl) ?_
 refine Pf rfl<|We<|WP.condF (b:=false) rfl rfl<|Wk<|Ws<|Wg<|M<|Nn<|Fb ?_
 refine Lo 3 S<|A<|We ?_
 refine Ws<|Wg<|M<|Nn<|Fb ?_
 refine W.store (i:=3) [(str c.fName),(int c.fBytes),(int c.fVariants),(int c.fTables),(boo c.fStrict),(boo c.fRefuse),(ptr q 0),(int 0),(.pointer none)] S rfl rfl rfl lay52 rfl rfl (Nat.le_of_ble_eq_true rfl) rfl ?_
 intro bc S
 refine We<|Ws<|Wg<|M<|M<|Nn<|Fb<|Fb ?_
 refine Lo 2 S<|B h fun d a3 h=>W.call S rfl (zGj S.holds (hG.post S.post) [72,84,84,80,47,49,46,49,32,50,48,48,32,79,75,13,10,67,97,99,104,101,45,67,111,110,116,114,111,108,58,32,109,97,120,45,97,103,101,61,54,48,13,10,67,111,110,116,101,110,116,45,76,101,110,103,116,104,58,32,49,13,10,13,10,120] f.1.fMethod true a3) ?_
 rintro bd be a0 a1 S ⟨ap,rfl,aq⟩
 have ac:=Sl.mono ac a1
 refine M ?_
 refine Ex ?_
 refine Ex ?_
 refine Ex ?_
 refine W.alloc [(int 0),(int 0),(str []),(.slice none 0 0),(str [])] S zer24 ?_
 intro a4 bf S
 refine W.store (i:=0) [(int d.1.fMinor),(int d.1.fStatus),(str d.1.fReason),ap,(str d.1.fBody)] S rfl rfl rfl lay24 rfl (AllOne.all (l:=[(int d.1.fMinor),(int d.1.fStatus),(str d.1.fReason),ap,(str d.1.fBody)]) (.cons rfl (.cons rfl (.cons rfl (.cons (Sl.oneC aq) (.cons rfl .nil)))))) (Nat.le_of_ble_eq_true rfl) rfl ?_
 intro bg S
 refine A<|A<|We<|Ws<|Wb<|Ws<|Wg<|M<|Lf<|M ?_
 refine WL.grp 5 [43,44,45,46] 47 (boo ((d.2.2 !=0)||(d.2.1 !=([72,84,84,80,47,49,46,49,32,50,48,48,32,79,75,13,10,67,97,99,104,101,45,67,111,110,116,114,111,108,58,32,109,97,120,45,97,103,101,61,54,48,13,10,67,111,110,116,101,110,116,45,76,101,110,103,116,104,58,32,49,13,10,13,10,120].length:Int)))) ?_ ?_
 ·rcases boolE (d.2.2 !=0) with k | k
  ·refine Gn k<|Gn k<|Gn k<|Gn k<|Pt k ?_
   exact We ⟨(orT k),ag,rfl⟩
  refine Gy k<|M<|Gy k<|M<|Gy k<|Ns<|Gy k<|Lf<|Pf k ?_
  exact We ⟨(orF k),ag,rfl⟩
 intro us
 refine M ?_
 refine WL.grp 4 [49,50,51] 52 (boo (((d.2.2 !=0)||(d.2.1 !=([72,84,84,80,47,49,46,49,32,50,48,48,32,79,75,13,10,67,97,99,104,101,45,67,111,110,116,114,111,108,58,32,109,97,120,45,97,103,101,61,54,48,13,10,67,111,110,116,101,110,116,45,76,101,110,103,116,104,58,32,49,13,10,13,10,120].length:Int)))||(decide (d.1.fStatus<200)))) ?_ ?_
 ·rcases boolE ((d.2.2 !=0)||(d.2.1 !=([72,84,84,80,47,49,46,49,32,50,48,48,32,79,75,13,10,67,97,99,104,101,45,67,111,110,116,114,111,108,58,32,109,97,120,45,97,103,101,61,54,48,13,10,67,111,110,116,101,110,116,45,76,101,110,103,116,104,58,32,49,13,10,13,10,120].length:Int))) with p | p
  ·refine Gn p<|Gn p<|Gn p<|Pt p ?_
   exact We ⟨(orT p),ag,rfl⟩
  refine Gy p<|Fb<|Gy p ?_
  refine Lo 0 S<|Gy p<|La<|Pf p ?_
  exact We ⟨(orF p),ag,rfl⟩
 intro us
 refine A<|We ?_
 rcases condE h with ⟨aw,h⟩ | ⟨aw,h⟩
 ·refine CT aw ?_
  cases h
 refine CF aw<|Ws<|Wg<|Fb ?_
 refine Lo 0 S<|Le<|M ?_
 refine WL.grp 5 [63,64,65,66] 67 (boo ((d.1.fStatus==304)&&false)) ?_ ?_
 ·rcases boolE (d.1.fStatus==304) with o | o
  ·refine Gy o<|M<|Gy o<|Nn<|Gy o<|Fb<|Gy o ?_
   refine Lo 3 S<|Pt o ?_
   exact We ⟨(andT o),ag,rfl⟩
  refine Gn o<|Gn o<|Gn o<|Gn o<|Pf o ?_
  exact We ⟨(andF o),ag,rfl⟩
 intro us
 refine A<|We ?_
 rcases condE h with ⟨ax,h⟩ | ⟨ax,h⟩
 ·refine CT ax ?_
  cases h
 refine CF ax<|Ws<|Wg<|Fb ?_
 refine Lo 0 S<|Le<|M<|B h fun a5 z h=>WL.grpw 23 [77,78,79,80,81,82,83,84,85,86,87,88,89,90,91,92,93,94,95,96,97,98] 99 (boo a5) (fun w=>∃ H':Hp,a0.le H'∧St t H0 w H' [.box a4 24 [(int d.1.fMinor),(int d.1.fStatus),(str d.1.fReason),ap,(str d.1.fBody)],.box ae 56 [(str []),(str [])],.box ak 56 [(str []),(str aj)],.box ar 111 [(str f.1.fMethod),(str f.1.fTarget),(int f.1.fMinor),al,(str f.1.fBody),(str f.2.1.fHost),(int f.2.1.fPort),(str f.2.1.fPath),(str f.2.1.fQuery),(boo f.2.1.fHasQuery),(str ab),(int 0),(boo false),(int 0),(.slice none 0 0),(.slice none 0 0),(.slice none 0 0),(str []),(.slice none 0 0),(str []),(int 0),(int 0)],.box u 54 [(str c.fName),(int c.fBytes),(int c.fVariants),(int c.fTables),(boo c.fStrict),(boo c.fRefuse),(ptr q 0),(int 0),(.pointer none)],.box q 136 [(int c.fBytes),(int c.fVariants),(int c.fTables),(int 0),(.slice none 0 0),(mapv r)],.mp r []]) ?_ ?_
 ·rcases boolE (d.1.fStatus==304) with j | j
  ·replace z:=condT z j
   refine Gy j<|M<|Gy j<|Nn<|Gy j<|Fb<|Gy j ?_
   refine WL.w (R.loadBN (i:=3) (vs:=[(str f.1.fMethod),(str f.1.fTarget),(int f.1.fMinor),al,(str f.1.fBody)]) S rfl rfl lay94 rfl rfl)<|Gy j ?_
   cases z
  replace z:=condF z j
  refine Gn j<|Gn j<|Gn j<|Gn j<|Gn j<|Gn j<|Gn j<|WL.gund rfl rfl<|WL.gund rfl rfl<|WL.gund rfl rfl<|WL.gund rfl rfl<|WL.gund rfl rfl ?_
  refine WL.gund rfl rfl<|WL.gund rfl rfl<|WL.gund rfl rfl<|WL.gund rfl rfl<|WL.gund rfl rfl<|WL.gund rfl rfl<|WL.gund rfl rfl<|WL.gund rfl rfl<|WL.gund rfl rfl<|Gn j<|Pf j ?_
  exact We ⟨(congrArg boo (oi z)),ag,⟨a0,(Hp.le.refl _),S⟩⟩
 intro us bh ⟨bi,ay,S⟩
 have aq:=Sl.mono aq ay
 have ac:=Sl.mono ac ay
 refine A<|We ?_
 rcases condE h with ⟨az,h⟩ | ⟨az,h⟩
 ·refine CT az ?_
  cases h
 refine CF az<|Wk<|Ws<|Wg<|M<|M ?_
 refine WL.w (R.loadBN (i:=0) (vs:=[(int d.1.fMinor),(int d.1.fStatus),(str d.1.fReason),ap,(str d.1.fBody)]) S rfl rfl lay24 rfl rfl) ?_
 obtain ⟨⟨x,am,an,av,ao⟩,a6,h⟩:=bindE h
 refine callK rfl (zIl hw (hG) S aq ac a6 ?_)
 intro ad bj af ah ai a2 a7 a8 a9 ba bk S
 replace S:St t H0 _ a2 [ad,.box ae 56 [(str []),(str [])],.box ak 56 [(str []),(str aj)],.box u 54 [(str c.fName),(int c.fBytes),(int c.fVariants),(int c.fTables),(boo c.fStrict),(boo c.fRefuse),(ptr q 0),(int 0),(.pointer none)],.box q 136 [(int c.fBytes),(int c.fVariants),(int c.fTables),(int (wr (0+(wr (am - an))))),af,(mapv r)],.mp r (encm (fun v=>v) [(ab,(agg [ah,ai]))])]:=(S.drop _ (.cons_cons _ (.cons _ (.cons_cons _ (.cons_cons _ (.cons_cons _ (.cons_cons _ (.cons_cons _ .slnil))))))))
 refine W.store (i:=1) [(str x),(str [])] S rfl rfl rfl lay56 rfl rfl (Nat.le_of_ble_eq_true rfl) rfl ?_
 intro bn S
 refine A<|We ?_
 refine WP.ret (In.two rfl (Res.cellB (i:=1) (cs:=[(str x),(str [])]) S rfl rfl lay56 rfl rfl) rfl ?_)
 cases oi h
 exact hK ad ae af ah ai a2 ((a1.trans ay).trans a7) a8 a9 ba _ S
theorem zIN {j:World} {x:Hp} (hw:Holds j x) (hG:Tryz.Gl j) {c:GConfig} {ac:Str} {ad:Str} {ae:Str} {af:Int} {ah:Int} {ai:(List Str)} {k:GTable} {l:Nat} {aj:Nat} {o:Ent} {ak:Nat} {d:Nat} {p:Value} {q:Nat} {r:Value} {t:Value} {f:Hp} {w:World} (S:St j x w f [.box aj 56 [(str ae),(str [])],o,.box ak 56 [(str []),(str ac)],.box l 54 [(str c.fName),(int c.fBytes),(int c.fVariants),(int c.fTables),(boo c.fStrict),(boo c.fRefuse),(ptr d 0),(int 0),(.pointer none)],.box d 136 [(int c.fBytes),(int c.fVariants),(int c.fTables),(int (wr (0+(wr (af - ah))))),p,(mapv q)],.mp q (encm (fun v=>v) [(ad,(agg [r,t]))])]) (z:MR (α:=Str) f o 9 p ai) (aa:Sl (α:=GAxis) f r k.fAxes) (ab:Sl (α:=GEntry) f t k.fEntries) (h:zDX=some ()) {K:Value→World→Prop}
  (hK:∀ (Hz:Hp),f.le Hz→MR (α:=Str) Hz o 9 p ai→Sl (α:=GAxis) Hz r k.fAxes→Sl (α:=GEntry) Hz t k.fEntries→∀ w',St j x w' Hz [.box aj 56 [(str ae),(str [])],o,.box ak 56 [(str []),(str ac)],.box l 54 [(str c.fName),(int c.fBytes),(int c.fVariants),(int c.fTables),(boo c.fStrict),(boo c.fRefuse),(ptr d 0),(int (wr (0+(if 1099511627776<5 then 1099511627776 else 5)))),(.pointer none)],.box d 136 [(int c.fBytes),(int c.fVariants),(int c.fTables),(int (wr (0+(wr (af - ah))))),p,(mapv q)],.mp q (encm (fun v=>v) [(ad,(agg [r,t]))])]→K (int 0) w') :
  CallK Tryz.prog 15 [(ptr l 0),(int 5)] w K:=by
 unfold zDX at h
 refine zBB (N':=26) Tryz.func15 rfl rfl kr rfl<|Ws<|Wg<|A<|We<|Ws<|Wb<|Ws<|Wg<|M<|W.inl (args:=[(ptr l 0)]) rfl (N':=12) Tryz.func38 rfl rfl kr rfl<|Ws ?_
 refine Wg<|A<|We<|Ws<|Wg<|M ?_
 refine WL.w (v:=boo true) (R.ofEq (R.neqPN rfl rfl Tryz.underlying34) rfl)<|M<|Gy rfl<|M<|Gy rfl<|Nn ?_
 refine Gy rfl<|Fb<|Gy rfl ?_
 refine Lo 3 S<|Gy rfl ?_
 refine WL.w (v:=boo true) (R.ofEq (R.neqPN rfl rfl Tryz.underlying51) rfl)<|Pt rfl<|A<|We ?_
 refine WP.ret (In.one rfl rfl ?_)
 refine WL.w (v:=boo false) (R.ofEq (R.not rfl) rfl)<|A<|We<|WP.condF (b:=false) rfl rfl<|Ws<|Wg<|M ?_
 refine WL.w (v:=boo false) (R.ofEq (R.lss rfl rfl) rfl)<|A<|We<|WP.condF (b:=false) rfl rfl<|Wk ?_
 refine Ws<|WP.quietTail 14 S kr kr<|QM<|QNn<|QFb ?_
 refine WQ.val (fun w hw=>by obtain ⟨_,hq,S⟩:=hw; exact (R.loadB (i:=3) (v:=int 0) S rfl rfl lay2 rfl))<|QM<|QM<|QNn<|QFb ?_
 refine WQ.val (fun w hw=>by obtain ⟨_,hq,S⟩:=hw; exact (R.loadB (i:=3) (v:=int 0) S rfl rfl lay2 rfl)) ?_
 refine WQ.val (v:=int 1099511627776) (fun _ _=>(R.ofEq (R.sub rfl rfl) rfl)) ?_
 refine QNi<|QLg<|QNn<|QFb<|WQ.nil ?_
 intro am al u S
 have z:=MR.mono z u
 have aa:=Sl.mono aa u
 have ab:=Sl.mono ab u
 refine W.store (i:=3) [(str c.fName),(int c.fBytes),(int c.fVariants),(int c.fTables),(boo c.fStrict),(boo c.fRefuse),(ptr d 0),(int (wr (0+(if 1099511627776<5 then 1099511627776 else 5)))),(.pointer none)] S rfl rfl rfl lay2 rfl rfl (Nat.le_of_ble_eq_true rfl) rfl ?_
 intro an S
 refine We<|Ws<|Wg<|A<|We ?_
 refine WP.ret (In.one rfl rfl ?_)
 cases oi h
 exact hK al u z aa ab _ S
theorem zIR {p:World} {H0:Hp} (hw:Holds p H0) (hG:Tryz.Gl p) {d:GConfig} {af:Str} {q:Str} {ah:Str} {ai:Int} {aj:Int} {ak:(List Str)} {r:GTable} {c:(GRequest×GURI×Unit)} {al:Str} {o:Nat} {am:Nat} {an:Nat} {ao:Nat} {t:Value} {ap:Nat} {aq:Nat} {u:Ent} {ar:Nat} {au:Nat} {x:Value} {z:Nat} {f:Value} {j:Value} {k:Hp} {w:World} (S:St p H0 w k [.box am 62 [(.slice none 0 0),(.slice none 0 0)],.box an 96 [(str c.2.1.fHost),(int c.2.1.fPort),(str c.2.1.fPath),(str c.2.1.fQuery),(boo c.2.1.fHasQuery)],.box ao 94 [(str c.1.fMethod),(str c.1.fTarget),(int c.1.fMinor),t,(str c.1.fBody)],.box ap 56 [(str []),(str [])],.box aq 56 [(str ah),(str [])],u,.box ar 56 [(str []),(str af)],.box au 54 [(str d.fName),(int d.fBytes),(int d.fVariants),(int d.fTables),(boo d.fStrict),(boo d.fRefuse),(ptr o 0),(int (wr (0+(if 1099511627776<5 then 1099511627776 else 5)))),(.pointer none)],.box o 136 [(int d.fBytes),(int d.fVariants),(int d.fTables),(int (wr (0+(wr (ai - aj))))),x,(mapv z)],.mp z (encm (fun v=>v) [(q,(agg [f,j]))])]) (aw:Sl (α:=GField) k t c.1.fFields) (ax:MR (α:=Str) k u 9 x ak) (ab:Sl (α:=GAxis) k f r.fAxes) (ac:Sl (α:=GEntry) k j r.fEntries) (h:zDS q al=some ()) {K:Value→World→Prop}
  (hK:∀ (ad:Nat) (ae:Nat) (Hz:Hp),k.le Hz→Sl (α:=GAxis) Hz f r.fAxes→Sl (α:=GEntry) Hz j r.fEntries→Sl (α:=GField) Hz t c.1.fFields→MR (α:=Str) Hz u 9 x ak→∀ w',St p H0 w' Hz [.box ad 62 [f,j],.box ae 62 [f,j],.box am 62 [(.slice none 0 0),(.slice none 0 0)],.box an 96 [(str c.2.1.fHost),(int c.2.1.fPort),(str c.2.1.fPath),(str c.2.1.fQuery),(boo c.2.1.fHasQuery)],.box ao 94 [(str c.1.fMethod),(str c.1.fTarget),(int c.1.fMinor),t,(str c.1.fBody)],.box ap 56 [(str []),(str [])],.box aq 56 [(str ah),(str [])],u,.box ar 56 [(str []),(str af)],.box au 54 [(str d.fName),(int d.fBytes),(int d.fVariants),(int d.fTables),(boo d.fStrict),(boo d.fRefuse),(ptr o 0),(int (wr (0+(if 1099511627776<5 then 1099511627776 else 5)))),(.pointer none)],.box o 136 [(int d.fBytes),(int d.fVariants),(int d.fTables),(int (wr (0+(wr (ai - aj))))),x,(mapv z)],.mp z (encm (fun v=>v) [(q,(agg [f,j]))])]→K (.tuple ⟨[(agg [f,j]),(boo true)]⟩) w') :
  CallK Tryz.prog 80 [(ptr o 0),(str al)] w K:=by
 unfold zDS at h
 refine zBB (N':=23) Tryz.func80 rfl rfl kr rfl<|Ws<|Wg ?_
 refine W.alloc [(.slice none 0 0),(.slice none 0 0)] S zer62 ?_
 intro ae ay S
 refine A<|We<|Ws<|Ws<|Wg<|M<|W.inl (args:=[(ptr o 0)]) rfl (N':=12) Tryz.func78 rfl rfl kr rfl<|Ws<|Wg<|A<|We<|Ws ?_
 refine Wg<|M ?_
 refine WL.w (v:=boo true) (R.ofEq (R.neqPN rfl rfl Tryz.underlying51) rfl)<|M<|Gy rfl<|M<|Gy rfl<|Nn<|Gy rfl<|Fb<|Gy rfl ?_
 refine Lo 9 S ?_
 refine Gy rfl ?_
 refine WL.w (v:=boo true) (R.ofEq (R.neqMN rfl rfl Tryz.underlying134) rfl)<|Pt rfl<|A<|We ?_
 refine WP.ret (In.one rfl rfl ?_)
 refine WL.w (v:=boo false) (R.ofEq (R.not rfl) rfl)<|We<|WP.condF (b:=false) rfl rfl<|Wk<|Ws<|Wg<|M<|Nn<|Fb ?_
 refine Lo 9 S<|M ?_
 rcases condE h with ⟨av,h⟩ | ⟨av,h⟩
 ·refine WL.w (v:=.tuple ⟨[(agg [f,j]),(boo true)]⟩) (R.lookX (i:=10) (m:=[(q,(agg [f,j]))]) S rfl rfl rfl Tryz.underlying134 Tryz.underlying9 mz62 (zLm av))<|M ?_
  refine Ex ?_
  refine Ex ?_
  refine W.alloc [(.slice none 0 0),(.slice none 0 0)] S zer62 ?_
  intro ad az S
  refine W.store (i:=0) [f,j] S rfl rfl rfl lay62 rfl (AllOne.all (l:=[f,j]) (.cons (Sl.oneC ab) (.cons (Sl.oneC ac) .nil))) (Nat.le_of_ble_eq_true rfl) rfl ?_
  intro a0 S
  refine A<|We<|Ws<|Wg ?_
  refine WL.w (R.loadBN (i:=0) (vs:=[f,j]) S rfl rfl lay62 rfl rfl)<|M ?_
  refine W.store (i:=1) [f,j] S rfl rfl rfl lay62 rfl (AllOne.all (l:=[f,j]) (.cons (Sl.oneC ab) (.cons (Sl.oneC ac) .nil))) (Nat.le_of_ble_eq_true rfl) rfl ?_
  intro a1 S
  refine A<|We ?_
  refine WP.ret (In.two rfl (Res.cellB (i:=1) (cs:=[f,j]) S rfl rfl lay62 rfl rfl) rfl ?_)
  cases oi h
  exact hK ad ae k (Hp.le.refl _) ab ac aw ax _ S
 cases h
theorem zIG {x:World} {H0:Hp} (hw:Holds x H0) (hG:Tryz.Gl x) {c:GConfig} {ak:Str} {ah:Str} {al:Str} {am:Int} {an:Int} {ax:(List Str)} {r:GTable} {b:(GRequest×GURI×Unit)} {ay:Str} {o:Nat} {ao:Nat} {ap:Nat} {z:Value} {aq:Nat} {ar:Nat} {aa:Ent} {au:Nat} {av:Nat} {ab:Value} {t:Nat} {d:Value} {f:Value} {u:Hp} {w:World} (S:St x H0 w u [.box ao 96 [(str b.2.1.fHost),(int b.2.1.fPort),(str b.2.1.fPath),(str b.2.1.fQuery),(boo b.2.1.fHasQuery)],.box ap 94 [(str b.1.fMethod),(str b.1.fTarget),(int b.1.fMinor),z,(str b.1.fBody)],.box aq 56 [(str []),(str [])],.box ar 56 [(str al),(str [])],aa,.box au 56 [(str []),(str ak)],.box av 54 [(str c.fName),(int c.fBytes),(int c.fVariants),(int c.fTables),(boo c.fStrict),(boo c.fRefuse),(ptr o 0),(int (wr (0+(if 1099511627776<5 then 1099511627776 else 5)))),(.pointer none)],.box o 136 [(int c.fBytes),(int c.fVariants),(int c.fTables),(int (wr (0+(wr (am - an))))),ab,(mapv t)],.mp t (encm (fun v=>v) [(ah,(agg [d,f]))])]) (ac:Sl (α:=GField) u z b.1.fFields) (ad:MR (α:=Str) u aa 9 ab ax) (p:Sl (α:=GAxis) u d r.fAxes) (q:Sl (α:=GEntry) u f r.fEntries) {ai:GTable} (h:zCL ah r ay=some ai) {K:Value→World→Prop}
  (hK:∀ (j:Value) (k:Value) (aw:Nat) (aj:Nat) (Hz:Hp),u.le Hz→Sl (α:=GAxis) Hz j ai.fAxes→Sl (α:=GEntry) Hz k ai.fEntries→Sl (α:=GAxis) Hz d r.fAxes→Sl (α:=GEntry) Hz f r.fEntries→Sl (α:=GField) Hz z b.1.fFields→MR (α:=Str) Hz aa 9 ab ax→∀ w',St x H0 w' Hz [.box aw 62 [d,f],.box aj 62 [j,k],.box ao 96 [(str b.2.1.fHost),(int b.2.1.fPort),(str b.2.1.fPath),(str b.2.1.fQuery),(boo b.2.1.fHasQuery)],.box ap 94 [(str b.1.fMethod),(str b.1.fTarget),(int b.1.fMinor),z,(str b.1.fBody)],.box aq 56 [(str []),(str [])],.box ar 56 [(str al),(str [])],aa,.box au 56 [(str []),(str ak)],.box av 54 [(str c.fName),(int c.fBytes),(int c.fVariants),(int c.fTables),(boo c.fStrict),(boo c.fRefuse),(ptr o 0),(int (wr (0+(if 1099511627776<5 then 1099511627776 else 5)))),(.pointer none)],.box o 136 [(int c.fBytes),(int c.fVariants),(int c.fTables),(int (wr (0+(wr (am - an))))),ab,(mapv t)],.mp t (encm (fun v=>v) [(ah,(agg [d,f]))])]→K (.tuple ⟨[(agg [j,k]),(boo true)]⟩) w') :
  CallK Tryz.prog 45 [(ptr o 0),(str ay)] w K:=by
 unfold zCL at h
 refine zBB (N':=17) Tryz.func45 rfl rfl kr rfl<|Ws<|Wg ?_
 refine W.alloc [(.slice none 0 0),(.slice none 0 0)] S zer62 ?_
 intro aj a6 S
 refine A<|We<|Ws<|Wg<|M<|M<|B h fun _ a1 h=>callK rfl (zIR hw (hG) S ac ad p q a1 ?_)
 intro a7 a8 a2 a3 p q ac ad a9 S
 replace S:St x H0 _ a2 [.box aj 62 [(.slice none 0 0),(.slice none 0 0)],.box ao 96 [(str b.2.1.fHost),(int b.2.1.fPort),(str b.2.1.fPath),(str b.2.1.fQuery),(boo b.2.1.fHasQuery)],.box ap 94 [(str b.1.fMethod),(str b.1.fTarget),(int b.1.fMinor),z,(str b.1.fBody)],.box aq 56 [(str []),(str [])],.box ar 56 [(str al),(str [])],aa,.box au 56 [(str []),(str ak)],.box av 54 [(str c.fName),(int c.fBytes),(int c.fVariants),(int c.fTables),(boo c.fStrict),(boo c.fRefuse),(ptr o 0),(int (wr (0+(if 1099511627776<5 then 1099511627776 else 5)))),(.pointer none)],.box o 136 [(int c.fBytes),(int c.fVariants),(int c.fTables),(int (wr (0+(wr (am - an))))),ab,(mapv t)],.mp t (encm (fun v=>v) [(ah,(agg [d,f]))])]:=(S.drop _ (.cons _ (.cons _ (.cons_cons _ (.cons_cons _ (.cons_cons _ (.cons_cons _ (.cons_cons _ (.cons_cons _ (.cons_cons _ (.cons_cons _ (.cons_cons _ (.cons_cons _ .slnil)))))))))))))
 refine M ?_
 refine Ex ?_
 refine Ex ?_
 refine W.alloc [(.slice none 0 0),(.slice none 0 0)] S zer62 ?_
 intro aw ba S
 refine W.store (i:=0) [d,f] S rfl rfl rfl lay62 rfl (AllOne.all (l:=[d,f]) (.cons (Sl.oneC p) (.cons (Sl.oneC q) .nil))) (Nat.le_of_ble_eq_true rfl) rfl ?_
 intro bb S
 refine A<|We<|Ws<|Wg ?_
 refine WL.w (R.loadBN (i:=0) (vs:=[d,f]) S rfl rfl lay62 rfl rfl)<|B h fun ai a4 h=>W.call S rfl (zHX S.holds (hG.post S.post) r p q a4) ?_
 rintro bc bd a5 ae S ⟨j,k,rfl,az,a0⟩
 have p:=Sl.mono p ae
 have q:=Sl.mono q ae
 have ac:=Sl.mono ac ae
 have ad:=MR.mono ad ae
 refine M ?_
 refine W.store (i:=1) [j,k] S rfl rfl rfl lay62 rfl (AllOne.all (l:=[j,k]) (.cons (Sl.oneC az) (.cons (Sl.oneC a0) .nil))) (Nat.le_of_ble_eq_true rfl) rfl ?_
 intro be S
 refine A<|We ?_
 refine WP.ret (In.two rfl (Res.cellB (i:=1) (cs:=[j,k]) S rfl rfl lay62 rfl rfl) rfl ?_)
 obtain rfl:=oi h
 exact hK j k aw aj a5 (a3.trans ae) az a0 p q ac ad _ S
theorem zIU {t:World} {H0:Hp} (hw:Holds t H0) (hG:Tryz.Gl t) {d:GConfig} {ah:Str} {u:Str} {ai:Str} {aj:Int} {ak:Int} {ay:(List Str)} {ad:GTable} {c:(GRequest×GURI×Unit)} {al:Str} {ae:GTable} {p:GDecision} {o:Nat} {a0:Nat} {q:Value} {am:Nat} {an:Nat} {x:Value} {z:Value} {a1:Nat} {ao:Nat} {ap:Nat} {aq:Nat} {aa:Ent} {ar:Nat} {au:Nat} {ab:Value} {r:Nat} {f:Value} {j:Value} {k:Hp} {w:World} (S:St t H0 w k [.box a0 111 [(str c.1.fMethod),(str c.1.fTarget),(int c.1.fMinor),q,(str c.1.fBody),(str c.2.1.fHost),(int c.2.1.fPort),(str c.2.1.fPath),(str c.2.1.fQuery),(boo c.2.1.fHasQuery),(str al),(int (wr (0+(if 1099511627776<5 then 1099511627776 else 5)))),(boo false),(int 0),(.slice none 0 0),(.slice none 0 0),(.slice none 0 0),(str []),(.slice none 0 0),(str []),(int 0),(int 0)],.box am 108 [(int p.fKind),(int p.fIndex)],.box an 62 [x,z],.box a1 96 [(str c.2.1.fHost),(int c.2.1.fPort),(str c.2.1.fPath),(str c.2.1.fQuery),(boo c.2.1.fHasQuery)],.box ao 94 [(str c.1.fMethod),(str c.1.fTarget),(int c.1.fMinor),q,(str c.1.fBody)],.box ap 56 [(str []),(str [])],.box aq 56 [(str ai),(str [])],aa,.box ar 56 [(str []),(str ah)],.box au 54 [(str d.fName),(int d.fBytes),(int d.fVariants),(int d.fTables),(boo d.fStrict),(boo d.fRefuse),(ptr o 0),(int (wr (0+(if 1099511627776<5 then 1099511627776 else 5)))),(.pointer none)],.box o 136 [(int d.fBytes),(int d.fVariants),(int d.fTables),(int (wr (0+(wr (aj - ak))))),ab,(mapv r)],.mp r (encm (fun v=>v) [(u,(agg [f,j]))])]) (a2:Sl (α:=GField) k q c.1.fFields) (a3:Sl (α:=GAxis) k x ae.fAxes) (a4:Sl (α:=GEntry) k z ae.fEntries) (a5:MR (α:=Str) k aa 9 ab ay) (av:Sl (α:=GAxis) k f ad.fAxes) (aw:Sl (α:=GEntry) k j ad.fEntries) (h:zDW u al=some ()) {K:Value→World→Prop}
  (hK:∀ (ax:Nat) (af:Nat) (Hz:Hp),k.le Hz→Sl (α:=GAxis) Hz f ad.fAxes→Sl (α:=GEntry) Hz j ad.fEntries→Sl (α:=GAxis) Hz x ae.fAxes→Sl (α:=GEntry) Hz z ae.fEntries→Sl (α:=GField) Hz q c.1.fFields→MR (α:=Str) Hz aa 9 ab ay→∀ w',St t H0 w' Hz [.box ax 62 [f,j],.box af 62 [f,j],.box am 108 [(int p.fKind),(int p.fIndex)],.box an 62 [x,z],.box ao 94 [(str c.1.fMethod),(str c.1.fTarget),(int c.1.fMinor),q,(str c.1.fBody)],.box ap 56 [(str []),(str [])],.box aq 56 [(str ai),(str [])],aa,.box ar 56 [(str []),(str ah)],.box au 54 [(str d.fName),(int d.fBytes),(int d.fVariants),(int d.fTables),(boo d.fStrict),(boo d.fRefuse),(ptr o 0),(int (wr (0+(if 1099511627776<5 then 1099511627776 else 5)))),(.pointer none)],.box o 136 [(int d.fBytes),(int d.fVariants),(int d.fTables),(int (wr (0+(wr (aj - ak))))),ab,(mapv r)],.mp r (encm (fun v=>v) [(u,(agg [f,j]))])]→K (.tuple ⟨[(agg [f,j]),(boo true)]⟩) w') :
  CallK Tryz.prog 80 [(ptr o 0),(str al)] w K:=by
 unfold zDW at h
 refine zBB (N':=23) Tryz.func80 rfl rfl kr rfl<|Ws<|Wg ?_
 refine W.alloc [(.slice none 0 0),(.slice none 0 0)] S zer62 ?_
 intro af a6 S
 refine A<|We<|Ws<|Ws<|Wg<|M<|W.inl (args:=[(ptr o 0)]) rfl (N':=12) Tryz.func78 rfl rfl kr rfl<|Ws<|Wg<|A<|We<|Ws ?_
 refine Wg<|M ?_
 refine WL.w (v:=boo true) (R.ofEq (R.neqPN rfl rfl Tryz.underlying51) rfl)<|M<|Gy rfl<|M<|Gy rfl<|Nn<|Gy rfl<|Fb<|Gy rfl ?_
 refine Lo 11 S ?_
 refine Gy rfl ?_
 refine WL.w (v:=boo true) (R.ofEq (R.neqMN rfl rfl Tryz.underlying134) rfl)<|Pt rfl<|A<|We ?_
 refine WP.ret (In.one rfl rfl ?_)
 replace S:St t H0 _ k [.box af 62 [(.slice none 0 0),(.slice none 0 0)],.box am 108 [(int p.fKind),(int p.fIndex)],.box an 62 [x,z],.box ao 94 [(str c.1.fMethod),(str c.1.fTarget),(int c.1.fMinor),q,(str c.1.fBody)],.box ap 56 [(str []),(str [])],.box aq 56 [(str ai),(str [])],aa,.box ar 56 [(str []),(str ah)],.box au 54 [(str d.fName),(int d.fBytes),(int d.fVariants),(int d.fTables),(boo d.fStrict),(boo d.fRefuse),(ptr o 0),(int (wr (0+(if 1099511627776<5 then 1099511627776 else 5)))),(.pointer none)],.box o 136 [(int d.fBytes),(int d.fVariants),(int d.fTables),(int (wr (0+(wr (aj - ak))))),ab,(mapv r)],.mp r (encm (fun v=>v) [(u,(agg [f,j]))])]:=(S.drop _ (.cons_cons _ (.cons _ (.cons_cons _ (.cons_cons _ (.cons _ (.cons_cons _ (.cons_cons _ (.cons_cons _ (.cons_cons _ (.cons_cons _ (.cons_cons _ (.cons_cons _ (.cons_cons _ .slnil))))))))))))))
 refine WL.w (v:=boo false) (R.ofEq (R.not rfl) rfl)<|We<|WP.condF (b:=false) rfl rfl<|Wk<|Ws<|Wg<|M<|Nn<|Fb ?_
 refine Lo 9 S<|M ?_
 rcases condE h with ⟨az,h⟩ | ⟨az,h⟩
 ·refine WL.w (v:=.tuple ⟨[(agg [f,j]),(boo true)]⟩) (R.lookX (i:=10) (m:=[(u,(agg [f,j]))]) S rfl rfl rfl Tryz.underlying134 Tryz.underlying9 mz62 (zLm az))<|M ?_
  refine Ex ?_
  refine Ex ?_
  refine W.alloc [(.slice none 0 0),(.slice none 0 0)] S zer62 ?_
  intro ax a7 S
  refine W.store (i:=0) [f,j] S rfl rfl rfl lay62 rfl (AllOne.all (l:=[f,j]) (.cons (Sl.oneC av) (.cons (Sl.oneC aw) .nil))) (Nat.le_of_ble_eq_true rfl) rfl ?_
  intro a8 S
  refine A<|We<|Ws<|Wg ?_
  refine WL.w (R.loadBN (i:=0) (vs:=[f,j]) S rfl rfl lay62 rfl rfl)<|M ?_
  refine W.store (i:=1) [f,j] S rfl rfl rfl lay62 rfl (AllOne.all (l:=[f,j]) (.cons (Sl.oneC av) (.cons (Sl.oneC aw) .nil))) (Nat.le_of_ble_eq_true rfl) rfl ?_
  intro a9 S
  refine A<|We ?_
  refine WP.ret (In.two rfl (Res.cellB (i:=1) (cs:=[f,j]) S rfl rfl lay62 rfl rfl) rfl ?_)
  cases oi h
  exact hK ax af k (Hp.le.refl _) av aw a3 a4 a2 a5 _ S
 cases h
end Go.Proofs

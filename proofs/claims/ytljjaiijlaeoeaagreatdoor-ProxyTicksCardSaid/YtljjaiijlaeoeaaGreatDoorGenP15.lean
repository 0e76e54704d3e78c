/- A part of the proof of laws of the seat: written by program over the translation. -/
import Derived.Test.YtljjaiijlaeoeaaGreatDoorEng38
import Derived.Test.YtljjaiijlaeoeaaGreatDoorEng36
import Derived.Test.YtljjaiijlaeoeaaGreatDoorGenP14
namespace Go.Proofs
set_option maxHeartbeats 4000000
set_option maxRecDepth 10000
open Go.Eng Go.Eng.Pure
set_option linter.unusedVariables false
theorem zId {t:World} {z:Hp} (hw:Holds t z) (hG:Tryz.Gl t) {d:GConfig} {q:Nat} {j:Nat} {k:Nat} {ay:Hp} {w:World} (S:St t z w ay [.box q 54 [(str d.fName),(int d.fBytes),(int d.fVariants),(int d.fTables),(boo d.fStrict),(boo d.fRefuse),(ptr j 0),(int 0),(.pointer none)],.box j 136 [(int d.fBytes),(int d.fVariants),(int d.fTables),(int 0),(.slice none 0 0),(mapv k)],.mp k []]) {ah:Str} {c:(GRequest×GURI×Unit)} {ai:Str} (h:zCg d=some (ah,c,ai)) {K:Value→World→Prop}
  (hK:∀ (ak:Nat) (p:Value) (u:Nat) (Hz:Hp),ay.le Hz→Sl (α:=GField) Hz p c.1.fFields→∀ w',St t z w' Hz [.box ak 111 [(str c.1.fMethod),(str c.1.fTarget),(int c.1.fMinor),p,(str c.1.fBody),(str c.2.1.fHost),(int c.2.1.fPort),(str c.2.1.fPath),(str c.2.1.fQuery),(boo c.2.1.fHasQuery),(str ai),(int 0),(boo false),(int 0),(.slice none 0 0),(.slice none 0 0),(.slice none 0 0),(str []),(.slice none 0 0),(str []),(int 0),(int 0)],.box u 56 [(str []),(str ah)],.box q 54 [(str d.fName),(int d.fBytes),(int d.fVariants),(int d.fTables),(boo d.fStrict),(boo d.fRefuse),(ptr j 0),(int 0),(ptr ak 0)],.box j 136 [(int d.fBytes),(int d.fVariants),(int d.fTables),(int 0),(.slice none 0 0),(mapv k)],.mp k []]→K (.tuple ⟨[(agg [(str []),(str ah)]),(int 0)]⟩) w') :
  CallK Tryz.prog 26 [(ptr q 0),(str [71,69,84,32,47,97,32,72,84,84,80,47,49,46,49,13,10,72,111,115,116,58,32,104,13,10,13,10])] w K:=by
 unfold zCg at h
 refine zBB (N':=160) Tryz.func26 rfl rfl kr rfl<|Ws<|Wg ?_
 refine W.alloc [(str []),(str [])] S zer56 ?_
 intro u bs S
 refine A<|We<|Ws<|Ws<|Wg<|M<|W.inl (args:=[(ptr q 0)]) rfl (N':=12) Tryz.func38 rfl rfl kr rfl<|Ws<|Wg<|A<|We<|Ws ?_
 refine Wg<|M ?_
 refine WL.w (v:=boo true) (R.ofEq (R.neqPN rfl rfl Tryz.underlying34) rfl)<|M<|Gy rfl<|M<|Gy rfl<|Nn<|Gy rfl<|Fb<|Gy rfl ?_
 refine Lo 1 S ?_
 refine Gy rfl ?_
 refine WL.w (v:=boo true) (R.ofEq (R.neqPN rfl rfl Tryz.underlying51) rfl)<|Pt rfl<|A<|We ?_
 refine WP.ret (In.one rfl rfl ?_)
 refine WL.w (v:=boo false) (R.ofEq (R.not rfl) rfl)<|M<|Gy rfl<|M<|Gy rfl<|Nn<|Gy rfl<|Fb<|Gy rfl ?_
 refine Lo 1 S<|Gy rfl ?_
 refine WL.w (v:=boo false) (R.ofEq (R.neqPN rfl rfl Tryz.underlying52) rfl) ?_
 refine Pf rfl<|We<|WP.condF (b:=false) rfl rfl<|Wk<|Ws<|Wg<|M<|B h fun c bg h=>W.call S rfl (zHz S.holds (hG.post S.post) [71,69,84,32,47,97,32,72,84,84,80,47,49,46,49,13,10,72,111,115,116,58,32,104,13,10,13,10] bg) ?_
 rintro bt bu bh a9 S ⟨p,rfl,x⟩
 refine M ?_
 refine Ex ?_
 refine Ex ?_
 refine Ex ?_
 refine W.alloc [(str []),(str []),(int 0),(.slice none 0 0),(str [])] S zer94 ?_
 intro ac bv S
 refine W.alloc [(str []),(int 0),(str []),(str []),(boo false)] S zer96 ?_
 intro ad bw S
 refine W.store (i:=1) [(str c.1.fMethod),(str c.1.fTarget),(int c.1.fMinor),p,(str c.1.fBody)] S rfl rfl rfl lay94 rfl (AllOne.all (l:=[(str c.1.fMethod),(str c.1.fTarget),(int c.1.fMinor),p,(str c.1.fBody)]) (.cons rfl (.cons rfl (.cons rfl (.cons (Sl.oneC x) (.cons rfl .nil)))))) (Nat.le_of_ble_eq_true rfl) rfl ?_
 intro bx S
 refine W.store (i:=0) [(str c.2.1.fHost),(int c.2.1.fPort),(str c.2.1.fPath),(str c.2.1.fQuery),(boo c.2.1.fHasQuery)] S rfl rfl rfl lay96 rfl rfl (Nat.le_of_ble_eq_true rfl) rfl ?_
 intro bz S
 refine A<|We<|Ws<|Wg ?_
 refine W.alloc [(int 0),.nilIface] S zMc ?_
 intro bi b0 S
 refine We<|Ws<|Ws<|Wg<|M ?_
 refine WL.w (R.mkI Tryz.underlying104 rfl)<|W.inl (args:=[.nilIface,(.iface 104 (ptr bi 0))]) rfl (N':=42) Tryz.func49 rfl rfl kr rfl<|Ws<|Wg<|A<|We<|Ws ?_
 refine Ws<|Wg<|M ?_
 refine WL.w (R.eqlNI rfl rfl Tryz.underlying98)<|We<|WP.condT (b:=true) rfl rfl<|Ws<|Wg<|A<|We ?_
 refine WP.ret (In.one rfl rfl ?_)
 replace S:St t z _ bh [.box ad 96 [(str c.2.1.fHost),(int c.2.1.fPort),(str c.2.1.fPath),(str c.2.1.fQuery),(boo c.2.1.fHasQuery)],.box ac 94 [(str c.1.fMethod),(str c.1.fTarget),(int c.1.fMinor),p,(str c.1.fBody)],.box u 56 [(str []),(str [])],.box q 54 [(str d.fName),(int d.fBytes),(int d.fVariants),(int d.fTables),(boo d.fStrict),(boo d.fRefuse),(ptr j 0),(int 0),(.pointer none)],.box j 136 [(int d.fBytes),(int d.fVariants),(int d.fTables),(int 0),(.slice none 0 0),(mapv k)],.mp k []]:=(S.drop _ (.cons _ (.cons_cons _ (.cons_cons _ (.cons_cons _ (.cons_cons _ (.cons_cons _ (.cons_cons _ .slnil))))))))
 refine We<|WP.condF (b:=false) rfl rfl<|Wk<|Ws<|Wg ?_
 refine WL.w (R.loadBN (i:=0) (vs:=[(str c.2.1.fHost),(int c.2.1.fPort),(str c.2.1.fPath),(str c.2.1.fQuery),(boo c.2.1.fHasQuery)]) S rfl rfl lay96 rfl rfl)<|B h fun ai bj h=>W.call S rfl (zIS S.holds (hG.post S.post) c.2.1 bj) ?_
 rintro b1 b2 b3 az S rfl
 have x:=Sl.mono x az
 refine A<|We<|Ws<|Wg<|M<|Nn<|Fb ?_
 refine Lo 3 S<|M<|B h fun ar bk h=>callK rfl (zIg hw (hG) S x bk ?_)
 intro aa ab b4 b5 au ba ae af x b6 S
 replace S:St t z _ au [.box ad 96 [(str c.2.1.fHost),(int c.2.1.fPort),(str c.2.1.fPath),(str c.2.1.fQuery),(boo c.2.1.fHasQuery)],.box ac 94 [(str c.1.fMethod),(str c.1.fTarget),(int c.1.fMinor),p,(str c.1.fBody)],.box u 56 [(str []),(str [])],.box q 54 [(str d.fName),(int d.fBytes),(int d.fVariants),(int d.fTables),(boo d.fStrict),(boo d.fRefuse),(ptr j 0),(int 0),(.pointer none)],.box j 136 [(int d.fBytes),(int d.fVariants),(int d.fTables),(int 0),(.slice none 0 0),(mapv k)],.mp k []]:=(S.drop _ (.cons _ (.cons _ (.cons_cons _ (.cons_cons _ (.cons_cons _ (.cons_cons _ (.cons_cons _ (.cons_cons _ .slnil)))))))))
 refine M ?_
 refine Ex ?_
 refine Ex ?_
 refine W.alloc [(.slice none 0 0),(.slice none 0 0)] S zer62 ?_
 intro al b7 S
 refine W.store (i:=0) [aa,ab] S rfl rfl rfl lay62 rfl (AllOne.all (l:=[aa,ab]) (.cons (Sl.oneC ae) (.cons (Sl.oneC af) .nil))) (Nat.le_of_ble_eq_true rfl) rfl ?_
 intro b8 S
 refine A<|We<|Ws<|B h fun r bb h=>WP.cut (fun f w=>∃ (am:Hp) (a0:Nat),f 0=(ptr q 0)∧f 4=(ptr u 0)∧f 6=(ptr ac 0)∧f 7=(ptr ad 0)∧f 10=(str ai)∧f 13=(ptr a0 0)∧Sl (α:=GAxis) am aa ar.fAxes∧Sl (α:=GEntry) am ab ar.fEntries∧Sl (α:=GField) am p c.1.fFields∧Hp.le ay am∧St t z w am [.box a0 108 [(int r.fKind),(int r.fIndex)],.box al 62 [aa,ab],.box ad 96 [(str c.2.1.fHost),(int c.2.1.fPort),(str c.2.1.fPath),(str c.2.1.fQuery),(boo c.2.1.fHasQuery)],.box ac 94 [(str c.1.fMethod),(str c.1.fTarget),(int c.1.fMinor),p,(str c.1.fBody)],.box u 56 [(str []),(str [])],.box q 54 [(str d.fName),(int d.fBytes),(int d.fVariants),(int d.fTables),(boo d.fStrict),(boo d.fRefuse),(ptr j 0),(int 0),(.pointer none)],.box j 136 [(int d.fBytes),(int d.fVariants),(int d.fTables),(int 0),(.slice none 0 0),(mapv k)],.mp k []]) ?_ ?_
 ·refine WP.drawC (Cl t z au [.box al 62 [aa,ab],.box ad 96 [(str c.2.1.fHost),(int c.2.1.fPort),(str c.2.1.fPath),(str c.2.1.fQuery),(boo c.2.1.fHasQuery)],.box ac 94 [(str c.1.fMethod),(str c.1.fTarget),(int c.1.fMinor),p,(str c.1.fBody)],.box u 56 [(str []),(str [])],.box q 54 [(str d.fName),(int d.fBytes),(int d.fVariants),(int d.fTables),(boo d.fStrict),(boo d.fRefuse),(ptr j 0),(int 0),(.pointer none)],.box j 136 [(int d.fBytes),(int d.fVariants),(int d.fTables),(int 0),(.slice none 0 0),(mapv k)],.mp k []]) kr 13 rfl (bm 13 0) rfl ?_
  have S:=S.drew
  refine WC.take (i:=0) (bm 13 1) rfl kr kr kr rfl (fun w hw=>by obtain ⟨_,hq,S⟩:=hw; exact (R.loadBN (i:=0) (vs:=[aa,ab]) S rfl rfl lay62 rfl rfl)) ?_
  refine WC.take (i:=1) (bm 13 3) rfl kr kr kr rfl (fun w hw=>by obtain ⟨_,hq,S⟩:=hw; exact (R.loadBN (i:=2) (vs:=[(str c.1.fMethod),(str c.1.fTarget),(int c.1.fMinor),p,(str c.1.fBody)]) S rfl rfl lay94 rfl rfl)) ?_
  refine WC.take (i:=2) (bm 13 7) rfl kr kr kr rfl (fun _ _=>(R.mv (v:=ptr q 0) rfl)) ?_
  refine WC.take (i:=3) (bm 13 15) rfl kr kr kr rfl (fun _ _=>(R.nilCheckB rfl)) ?_
  refine WC.take (i:=4) (bm 13 31) rfl kr kr kr rfl (fun _ _=>(R.fieldB rfl zKJ)) ?_
  refine WC.take (i:=5) (bm 13 63) rfl kr kr kr rfl (fun w hw=>by obtain ⟨_,hq,S⟩:=hw; exact (R.loadB (i:=4) (v:=int 0) S rfl rfl lay2 rfl)) ?_
  refine WC.take (i:=6) (bm 13 127) rfl kr kr kr rfl (fun _ _=>(R.mv (v:=ptr q 0) rfl)) ?_
  refine WC.take (i:=7) (bm 13 255) rfl kr kr kr rfl (fun _ _=>(R.nilCheckB rfl)) ?_
  refine WC.take (i:=8) (bm 13 511) rfl kr kr kr rfl (fun _ _=>(R.fieldB rfl zKS)) ?_
  refine WC.take (i:=9) (bm 13 1023) rfl kr kr kr rfl (fun w hw=>by obtain ⟨_,hq,S⟩:=hw; exact (R.loadBN (i:=4) (vs:=[(str d.fName),(int d.fBytes),(int d.fVariants),(int d.fTables),(boo d.fStrict),(boo d.fRefuse)]) S rfl rfl lay38 rfl rfl)) ?_
  refine WC.next (rs:=[10,11]) ⟨au,(Hp.le.refl _),S.drop _ (.cons_cons _ (.cons_cons _ (.cons_cons _ (.cons_cons _ (.cons_cons _ (.cons_cons _ (.cons_cons _ .slnil)))))))⟩ kr (List.cons_ne_nil _ _) (allS ?_ (all1 ?_))
  ·refine Nxt.mk (o:=_) (bm 13 2047) rfl rfl<|W.call S rfl (zC7 S.holds (hG.post S.post) ar c.1 0 d ae af x bb) ?_
   rintro b9 ca an aj S rfl
   have ae:=Sl.mono ae aj
   have af:=Sl.mono af aj
   have x:=Sl.mono x aj
   refine We ?_
   refine WC.next (rs:=[11]) ⟨an,aj,S.drop _ (.cons_cons _ (.cons_cons _ (.cons_cons _ (.cons_cons _ (.cons_cons _ (.cons_cons _ (.cons_cons _ .slnil)))))))⟩ kr (List.cons_ne_nil _ _) (all1 ?_)
   refine Nxt.mk (o:=_) (bm 13 4095) rfl rfl ?_
   refine W.alloc [(int 0),(int 0)] S zJ6 ?_
   intro a1 cb S
   refine We ?_
   refine WC.next (rs:=[12]) ⟨an,aj,S.drop _ (.cons _ (.cons_cons _ (.cons_cons _ (.cons_cons _ (.cons_cons _ (.cons_cons _ (.cons_cons _ (.cons_cons _ .slnil))))))))⟩ kr (List.cons_ne_nil _ _) (all1 ?_)
   refine Nxt.mk (o:=_) (bm 13 8191) rfl rfl ?_
   refine W.store (i:=0) [(int r.fKind),(int r.fIndex)] S rfl rfl rfl zH7 rfl rfl (Nat.le_of_ble_eq_true rfl) rfl ?_
   intro cc S
   refine We<|WC.done ⟨an,aj,S.drop _ (.cons _ (.cons_cons _ (.cons_cons _ (.cons_cons _ (.cons_cons _ (.cons_cons _ (.cons_cons _ (.cons_cons _ .slnil))))))))⟩ kr ?_
   have S3:=S
   replace S3:=S3.front 7 rfl
   replace S3:=S3.front 7 rfl
   replace S3:=S3.front 7 rfl
   replace S3:=S3.front 7 rfl
   replace S3:=S3.front 7 rfl
   replace S3:=S3.front 7 rfl
   replace S3:=S3.front 7 rfl
   replace S3:=S3.front 7 rfl
   replace S3:St t z _ an [.box a1 108 [(int r.fKind),(int r.fIndex)],.box al 62 [aa,ab],.box ad 96 [(str c.2.1.fHost),(int c.2.1.fPort),(str c.2.1.fPath),(str c.2.1.fQuery),(boo c.2.1.fHasQuery)],.box ac 94 [(str c.1.fMethod),(str c.1.fTarget),(int c.1.fMinor),p,(str c.1.fBody)],.box u 56 [(str []),(str [])],.box q 54 [(str d.fName),(int d.fBytes),(int d.fVariants),(int d.fTables),(boo d.fStrict),(boo d.fRefuse),(ptr j 0),(int 0),(.pointer none)],.box j 136 [(int d.fBytes),(int d.fVariants),(int d.fTables),(int 0),(.slice none 0 0),(mapv k)],.mp k []]:=S3
   replace S3:St t z _ an [.box a1 108 [(int r.fKind),(int r.fIndex)],.box al 62 [aa,ab],.box ad 96 [(str c.2.1.fHost),(int c.2.1.fPort),(str c.2.1.fPath),(str c.2.1.fQuery),(boo c.2.1.fHasQuery)],.box ac 94 [(str c.1.fMethod),(str c.1.fTarget),(int c.1.fMinor),p,(str c.1.fBody)],.box u 56 [(str []),(str [])],.box q 54 [(str d.fName),(int d.fBytes),(int d.fVariants),(int d.fTables),(boo d.fStrict),(boo d.fRefuse),(ptr j 0),(int 0),(.pointer none)],.box j 136 [(int d.fBytes),(int d.fVariants),(int d.fTables),(int 0),(.slice none 0 0),(mapv k)],.mp k []]:=S3.drop _ (.cons_cons _ (.cons_cons _ (.cons_cons _ (.cons_cons _ (.cons_cons _ (.cons_cons _ (.cons_cons _ (.cons_cons _ .slnil))))))))
   exact ⟨an,a1,rfl,rfl,rfl,rfl,rfl,rfl,ae,af,x,(((a9.trans az).trans ba).trans aj),S3⟩
  refine Nxt.mk (o:=_) (bm 13 3071) rfl rfl ?_
  refine W.alloc [(int 0),(int 0)] S zJ6 ?_
  intro a2 cd S
  refine We ?_
  refine WC.next (rs:=[10]) ⟨au,(Hp.le.refl _),S.drop _ (.cons _ (.cons_cons _ (.cons_cons _ (.cons_cons _ (.cons_cons _ (.cons_cons _ (.cons_cons _ (.cons_cons _ .slnil))))))))⟩ kr (List.cons_ne_nil _ _) (all1 ?_)
  refine Nxt.mk (o:=_) (bm 13 4095) rfl rfl<|W.call S rfl (zC7 S.holds (hG.post S.post) ar c.1 0 d ae af x bb) ?_
  rintro ce cf ap ao S rfl
  have ae:=Sl.mono ae ao
  have af:=Sl.mono af ao
  have x:=Sl.mono x ao
  refine We ?_
  refine WC.next (rs:=[12]) ⟨ap,ao,S.drop _ (.cons _ (.cons_cons _ (.cons_cons _ (.cons_cons _ (.cons_cons _ (.cons_cons _ (.cons_cons _ (.cons_cons _ .slnil))))))))⟩ kr (List.cons_ne_nil _ _) (all1 ?_)
  refine Nxt.mk (o:=_) (bm 13 8191) rfl rfl ?_
  refine W.store (i:=0) [(int r.fKind),(int r.fIndex)] S rfl rfl rfl zH7 rfl rfl (Nat.le_of_ble_eq_true rfl) rfl ?_
  intro cg S
  refine We<|WC.done ⟨ap,ao,S.drop _ (.cons _ (.cons_cons _ (.cons_cons _ (.cons_cons _ (.cons_cons _ (.cons_cons _ (.cons_cons _ (.cons_cons _ .slnil))))))))⟩ kr ?_
  have S3:=S
  replace S3:=S3.front 7 rfl
  replace S3:=S3.front 7 rfl
  replace S3:=S3.front 7 rfl
  replace S3:=S3.front 7 rfl
  replace S3:=S3.front 7 rfl
  replace S3:=S3.front 7 rfl
  replace S3:=S3.front 7 rfl
  replace S3:=S3.front 7 rfl
  replace S3:St t z _ ap [.box a2 108 [(int r.fKind),(int r.fIndex)],.box al 62 [aa,ab],.box ad 96 [(str c.2.1.fHost),(int c.2.1.fPort),(str c.2.1.fPath),(str c.2.1.fQuery),(boo c.2.1.fHasQuery)],.box ac 94 [(str c.1.fMethod),(str c.1.fTarget),(int c.1.fMinor),p,(str c.1.fBody)],.box u 56 [(str []),(str [])],.box q 54 [(str d.fName),(int d.fBytes),(int d.fVariants),(int d.fTables),(boo d.fStrict),(boo d.fRefuse),(ptr j 0),(int 0),(.pointer none)],.box j 136 [(int d.fBytes),(int d.fVariants),(int d.fTables),(int 0),(.slice none 0 0),(mapv k)],.mp k []]:=S3
  replace S3:St t z _ ap [.box a2 108 [(int r.fKind),(int r.fIndex)],.box al 62 [aa,ab],.box ad 96 [(str c.2.1.fHost),(int c.2.1.fPort),(str c.2.1.fPath),(str c.2.1.fQuery),(boo c.2.1.fHasQuery)],.box ac 94 [(str c.1.fMethod),(str c.1.fTarget),(int c.1.fMinor),p,(str c.1.fBody)],.box u 56 [(str []),(str [])],.box q 54 [(str d.fName),(int d.fBytes),(int d.fVariants),(int d.fTables),(boo d.fStrict),(boo d.fRefuse),(ptr j 0),(int 0),(.pointer none)],.box j 136 [(int d.fBytes),(int d.fVariants),(int d.fTables),(int 0),(.slice none 0 0),(mapv k)],.mp k []]:=S3.drop _ (.cons_cons _ (.cons_cons _ (.cons_cons _ (.cons_cons _ (.cons_cons _ (.cons_cons _ (.cons_cons _ (.cons_cons _ .slnil))))))))
  exact ⟨ap,a2,rfl,rfl,rfl,rfl,rfl,rfl,ae,af,x,(((a9.trans az).trans ba).trans ao),S3⟩
 rintro f w ⟨am,a0,a3,bc,bd,be,bn,bo,av,aw,aq,bp,S⟩
 refine Ws<|WP.quietTail 8 S kr kr ?_
 refine WQ.val (fun w hw=>by obtain ⟨_,hq,S⟩:=hw; exact (R.loadBN (i:=3) (vs:=[(str c.1.fMethod),(str c.1.fTarget),(int c.1.fMinor),p,(str c.1.fBody)]) S bd rfl lay94 rfl rfl)) ?_
 refine WQ.val (fun w hw=>by obtain ⟨_,hq,S⟩:=hw; exact (R.loadBN (i:=2) (vs:=[(str c.2.1.fHost),(int c.2.1.fPort),(str c.2.1.fPath),(str c.2.1.fQuery),(boo c.2.1.fHasQuery)]) S be rfl lay96 rfl rfl))<|QM' bn<|QM' a3<|QNn<|QFb ?_
 refine WQ.val (fun w hw=>by obtain ⟨_,hq,S⟩:=hw; exact (R.loadB (i:=5) (v:=int 0) S rfl rfl lay2 rfl)) ?_
 refine WQ.val (fun _ _=>(R.build [(0,(agg [(str c.1.fMethod),(str c.1.fTarget),(int c.1.fMinor),p,(str c.1.fBody)])),(1,(agg [(str c.2.1.fHost),(int c.2.1.fPort),(str c.2.1.fPath),(str c.2.1.fQuery),(boo c.2.1.fHasQuery)])),(2,(str ai)),(3,(int 0))] [(str c.1.fMethod),(str c.1.fTarget),(int c.1.fMinor),p,(str c.1.fBody),(str c.2.1.fHost),(int c.2.1.fPort),(str c.2.1.fPath),(str c.2.1.fQuery),(boo c.2.1.fHasQuery),(str ai),(int 0),(boo false),(int 0),(.slice none 0 0),(.slice none 0 0),(.slice none 0 0),(str []),(.slice none 0 0),(str []),(int 0),(int 0)] bp111 zMg kr kr))<|WQ.nil ?_
 intro ch ci ax S
 have aq:=Sl.mono aq ax
 have av:=Sl.mono av ax
 have aw:=Sl.mono aw ax
 refine W.box [(str c.1.fMethod),(str c.1.fTarget),(int c.1.fMinor),p,(str c.1.fBody),(str c.2.1.fHost),(int c.2.1.fPort),(str c.2.1.fPath),(str c.2.1.fQuery),(boo c.2.1.fHasQuery),(str ai),(int 0),(boo false),(int 0),(.slice none 0 0),(.slice none 0 0),(.slice none 0 0),(str []),(.slice none 0 0),(str []),(int 0),(int 0)] S rfl rfl ?_
 intro ak cj S
 refine A<|We<|Ws<|Ws<|Wg<|Fb' bo ?_
 refine Lo 1 S<|We<|Wb<|Ws<|Wg<|Le ?_
 refine A<|We ?_
 rcases condE h with ⟨a4,h⟩ | ⟨a4,h⟩
 ·refine CT a4 ?_
  cases h
 refine CF a4<|Ws<|Wg<|Le<|A<|We ?_
 rcases condE h with ⟨a5,h⟩ | ⟨a5,h⟩
 ·refine CT a5 ?_
  cases h
 refine CF a5<|Ws<|Wg<|Le<|A<|We ?_
 rcases condE h with ⟨a6,h⟩ | ⟨a6,h⟩
 ·refine CT a6 ?_
  cases h
 refine CF a6<|Ws<|Wg<|Le<|A<|We ?_
 rcases condE h with ⟨a7,h⟩ | ⟨a7,h⟩
 ·refine CT a7 ?_
  cases h
 refine CF a7<|Wk<|Ws<|Wg<|M' a3 ?_
 refine WL.w (R.loadBN (i:=4) (vs:=[(str c.1.fMethod),(str c.1.fTarget),(int c.1.fMinor),p,(str c.1.fBody)]) S bd rfl lay94 rfl rfl) ?_
 refine WL.w (R.loadBN (i:=3) (vs:=[(str c.2.1.fHost),(int c.2.1.fPort),(str c.2.1.fPath),(str c.2.1.fQuery),(boo c.2.1.fHasQuery)]) S be rfl lay96 rfl rfl) ?_
 obtain ⟨⟨ah,ck,cl⟩,bq,h⟩:=bindE h
 refine callK rfl (zIq hw (hG) S aq av aw bq ?_)
 intro cm cn co bf br cp aq av aw cq S
 replace S:St t z _ bf [.box ak 111 [(str c.1.fMethod),(str c.1.fTarget),(int c.1.fMinor),p,(str c.1.fBody),(str c.2.1.fHost),(int c.2.1.fPort),(str c.2.1.fPath),(str c.2.1.fQuery),(boo c.2.1.fHasQuery),(str ai),(int 0),(boo false),(int 0),(.slice none 0 0),(.slice none 0 0),(.slice none 0 0),(str []),(.slice none 0 0),(str []),(int 0),(int 0)],.box u 56 [(str []),(str [])],.box q 54 [(str d.fName),(int d.fBytes),(int d.fVariants),(int d.fTables),(boo d.fStrict),(boo d.fRefuse),(ptr j 0),(int 0),(.pointer none)],.box j 136 [(int d.fBytes),(int d.fVariants),(int d.fTables),(int 0),(.slice none 0 0),(mapv k)],.mp k []]:=(S.drop _ (.cons _ (.cons _ (.cons_cons _ (.cons _ (.cons _ (.cons _ (.cons _ (.cons_cons _ (.cons_cons _ (.cons_cons _ (.cons_cons _ .slnil))))))))))))
 refine A<|We<|Ws<|Ws<|Wg<|M<|Na<|We ?_
 rcases condE h with ⟨a8,h⟩ | ⟨a8,h⟩
 ·refine CT a8 ?_
  cases h
 refine CF a8<|Wk<|Ws<|Wg<|M' a3<|M<|Nn<|Fb ?_
 refine W.store (i:=2) [(str d.fName),(int d.fBytes),(int d.fVariants),(int d.fTables),(boo d.fStrict),(boo d.fRefuse),(ptr j 0),(int 0),(ptr ak 0)] S rfl rfl rfl lay52 rfl rfl (Nat.le_of_ble_eq_true rfl) rfl ?_
 intro cr S
 refine We<|Ws<|Wg<|M ?_
 refine WL.w (R.build [(1,(str ah))] [(str []),(str ah)] bp56 zer56 rfl rfl) ?_
 refine W.store (i:=1) [(str []),(str ah)] S bc rfl rfl lay56 rfl rfl (Nat.le_of_ble_eq_true rfl) rfl ?_
 intro ct S
 refine A<|We ?_
 refine WP.ret (In.two rfl (Res.cellB (i:=1) (cs:=[(str []),(str ah)]) S bc rfl lay56 rfl rfl) rfl ?_)
 cases oi h
 exact hK ak p u bf ((bp.trans ax).trans br) aq _ S
theorem zH0 {w0:World} {H0:Hp} (hw:Holds w0 H0) (hG:Tryz.Gl w0) {d:GConfig} {az:Str} {f:(GRequest×GURI×Unit)} {r:Str} {b:(GResponse×Int×Int)} {a0:(List GField)} {c:(GEntry×(List GAxis))} {x:GTable} {af:Nat} {j:Value} {l:Value} {a1:Nat} {a2:Nat} {z:Value} {aa:Value} {ab:Value} {ac:Value} {a3:Nat} {a4:Nat} {ar:Value} {a5:Nat} {a6:Nat} {ad:Value} {a7:Nat} {a8:Nat} {a9:Nat} {ba:Nat} {au:Value} {bb:Nat} {t:Nat} {o:Hp} {w:World} (S:St w0 H0 w o [.box a1 62 [j,l],.box a2 92 [z,aa,ab,(str c.1.fReason),ac,(str c.1.fBody),(int c.1.fRequested),(int c.1.fReceived)],.box a3 92 [z,aa,ab,(str c.1.fReason),ac,(str c.1.fBody),(int c.1.fRequested),(int c.1.fReceived)],.box a4 24 [(int 1),(int b.1.fStatus),(str b.1.fReason),ar,(str b.1.fBody)],.box a5 56 [(str []),(str [])],.box a6 24 [(int b.1.fMinor),(int b.1.fStatus),(str b.1.fReason),ad,(str b.1.fBody)],.box a7 24 [(int b.1.fMinor),(int b.1.fStatus),(str b.1.fReason),ad,(str b.1.fBody)],.box a8 56 [(str []),(str [])],.box a9 56 [(str []),(str az)],.box ba 111 [(str f.1.fMethod),(str f.1.fTarget),(int f.1.fMinor),au,(str f.1.fBody),(str f.2.1.fHost),(int f.2.1.fPort),(str f.2.1.fPath),(str f.2.1.fQuery),(boo f.2.1.fHasQuery),(str r),(int 0),(boo false),(int 0),(.slice none 0 0),(.slice none 0 0),(.slice none 0 0),(str []),(.slice none 0 0),(str []),(int 0),(int 0)],.box bb 54 [(str d.fName),(int d.fBytes),(int d.fVariants),(int d.fTables),(boo d.fStrict),(boo d.fRefuse),(ptr af 0),(int 0),(.pointer none)],.box af 136 [(int d.fBytes),(int d.fVariants),(int d.fTables),(int 0),(.slice none 0 0),(mapv t)],.mp t []]) (ae:Sl (α:=GAxis) o j x.fAxes) (u:Sl (α:=GEntry) o l x.fEntries) (ah:Sl (α:=(List Str)) o z c.1.fKeys) (ai:Sl (α:=Str) o aa c.1.fVary) (aj:Sl (α:=Str) o ab c.1.fSnapshot) (ak:Sl (α:=GField) o ac c.1.fFields) (al:Sl (α:=GField) o ar a0) (am:Sl (α:=GField) o ad b.1.fFields) (an:Sl (α:=GField) o au f.1.fFields) {ao:Int} {ap:Int} (h:zCK x=some (ao,ap)) {K:Value→World→Prop}
  (hK:∀ (aw:Nat) (ax:Nat) (Hz:Hp),o.le Hz→Sl (α:=GAxis) Hz j x.fAxes→Sl (α:=GEntry) Hz l x.fEntries→Sl (α:=(List Str)) Hz z c.1.fKeys→Sl (α:=Str) Hz aa c.1.fVary→Sl (α:=Str) Hz ab c.1.fSnapshot→Sl (α:=GField) Hz ac c.1.fFields→Sl (α:=GField) Hz ar a0→Sl (α:=GField) Hz ad b.1.fFields→Sl (α:=GField) Hz au f.1.fFields→∀ w',St w0 H0 w' Hz [.box aw 62 [j,l],.box ax 9 [(str r)],.box a1 62 [j,l],.box a2 92 [z,aa,ab,(str c.1.fReason),ac,(str c.1.fBody),(int c.1.fRequested),(int c.1.fReceived)],.box a3 92 [z,aa,ab,(str c.1.fReason),ac,(str c.1.fBody),(int c.1.fRequested),(int c.1.fReceived)],.box a4 24 [(int 1),(int b.1.fStatus),(str b.1.fReason),ar,(str b.1.fBody)],.box a5 56 [(str []),(str [])],.box a6 24 [(int b.1.fMinor),(int b.1.fStatus),(str b.1.fReason),ad,(str b.1.fBody)],.box a7 24 [(int b.1.fMinor),(int b.1.fStatus),(str b.1.fReason),ad,(str b.1.fBody)],.box a8 56 [(str []),(str [])],.box a9 56 [(str []),(str az)],.box ba 111 [(str f.1.fMethod),(str f.1.fTarget),(int f.1.fMinor),au,(str f.1.fBody),(str f.2.1.fHost),(int f.2.1.fPort),(str f.2.1.fPath),(str f.2.1.fQuery),(boo f.2.1.fHasQuery),(str r),(int 0),(boo false),(int 0),(.slice none 0 0),(.slice none 0 0),(.slice none 0 0),(str []),(.slice none 0 0),(str []),(int 0),(int 0)],.box bb 54 [(str d.fName),(int d.fBytes),(int d.fVariants),(int d.fTables),(boo d.fStrict),(boo d.fRefuse),(ptr af 0),(int 0),(.pointer none)],.box af 136 [(int d.fBytes),(int d.fVariants),(int d.fTables),(int (wr (0+(wr (ao - ap))))),(.slice none 0 0),(mapv t)],.mp t (encm (fun v=>v) [(r,(agg [j,l]))])]→K (.tuple ⟨[]⟩) w') :
  CallK Tryz.prog 183 [(ptr af 0),(str r),(agg [j,l])] w K:=by
 unfold zCK at h
 refine zBB (N':=47) Tryz.func183 rfl rfl kr rfl<|Ws<|Wg ?_
 refine W.box [(str r)] S rfl rfl ?_
 intro ax bf S
 refine W.box [j,l] S rfl rfl ?_
 intro aw bg S
 refine We<|Ws<|WP.quietTail 17 S kr kr<|QM<|QNn<|QFb ?_
 refine WQ.val (fun w hw=>by obtain ⟨_,hq,S⟩:=hw; exact (R.loadB (i:=13) (v:=int 0) S rfl rfl lay3 rfl)) ?_
 refine WQ.val (fun w hw=>by obtain ⟨_,hq,S⟩:=hw; exact (R.loadBN (i:=0) (vs:=[j,l]) S rfl rfl lay62 rfl rfl))<|B h fun ao bc h=>WQ.call (v:=int ao) rfl (fun w H' hq S=>zH6 S.holds (hG.post S.post) x (Sl.mono ae hq) (Sl.mono u hq) bc)<|QM<|QNn<|QFb ?_
 refine WQ.val (fun w hw=>by obtain ⟨_,hq,S⟩:=hw; exact (R.loadB (i:=13) (v:=mapv t) S rfl rfl zLQ rfl)) ?_
 refine WQ.val (fun w hw=>by obtain ⟨_,hq,S⟩:=hw; exact (R.loadB (i:=1) (v:=str r) S rfl rfl lay9 rfl)) ?_
 refine WQ.val (v:=agg [(.slice none 0 0),(.slice none 0 0)]) (fun w hw=>by obtain ⟨_,hq,S⟩:=hw; exact (R.lookX1 (i:=14) (m:=[]) S rfl rfl rfl Tryz.underlying134 Tryz.underlying9 mz62 zKn))<|B h fun ap bd h=>WQ.call (v:=int ap) rfl (fun w H' hq S=>zH6 S.holds (hG.post S.post) (⟨([]:List GAxis),([]:List GEntry)⟩:GTable) Sl.nil Sl.nil bd)<|QLh<|QLg<|QNn<|QFb<|WQ.nil ?_
 intro bh bi p S
 have ae:=Sl.mono ae p
 have u:=Sl.mono u p
 have ah:=Sl.mono ah p
 have ai:=Sl.mono ai p
 have aj:=Sl.mono aj p
 have ak:=Sl.mono ak p
 have al:=Sl.mono al p
 have am:=Sl.mono am p
 have an:=Sl.mono an p
 refine W.store (i:=13) [(int d.fBytes),(int d.fVariants),(int d.fTables),(int (wr (0+(wr (ao - ap))))),(.slice none 0 0),(mapv t)] S rfl rfl rfl lay3 rfl rfl (Nat.le_of_ble_eq_true rfl) rfl ?_
 intro bj S
 refine We<|Ws<|Ws<|Wg<|Fb ?_
 refine Lo 0 S<|Nq u<|Lc<|We ?_
 rcases condE h with ⟨ay,h⟩ | ⟨ay,h⟩
 ·refine CT ay<|Ws<|WP.quietTail 6 S kr kr<|QM<|QNn<|QFb ?_
  refine WQ.val (fun w hw=>by obtain ⟨_,hq,S⟩:=hw; exact (R.loadB (i:=13) (v:=mapv t) S rfl rfl zLQ rfl)) ?_
  refine WQ.val (fun w hw=>by obtain ⟨_,hq,S⟩:=hw; exact (R.loadB (i:=1) (v:=str r) S rfl rfl lay9 rfl)) ?_
  refine WQ.val (fun w hw=>by obtain ⟨_,hq,S⟩:=hw; exact (R.loadBN (i:=0) (vs:=[j,l]) S rfl rfl lay62 rfl rfl))<|WQ.nil ?_
  intro bk be q S
  have ae:=Sl.mono ae q
  have u:=Sl.mono u q
  have ah:=Sl.mono ah q
  have ai:=Sl.mono ai q
  have aj:=Sl.mono aj q
  have ak:=Sl.mono ak q
  have al:=Sl.mono al q
  have am:=Sl.mono am q
  have an:=Sl.mono an q
  refine W.updX (i:=14) (k:=r) (v:=agg [j,l]) S rfl rfl rfl rfl Tryz.underlying134 Tryz.underlying9 ?_
  intro bn S
  refine We ?_
  refine WP.ret (In.zero rfl  ?_)
  cases oi h
  exact hK aw ax be (p.trans q) ae u ah ai aj ak al am an _ S
 refine CF ay ?_
 cases h
end Go.Proofs

/- A part. -/
import Derived.Test.YtljjaiijlaeoeaaGreatDoorEng38
import Derived.Test.YtljjaiijlaeoeaaGreatDoorEng36
import Derived.Test.YtljjaiijlaeoeaaGreatDoorGenP16
namespace Go.Proofs
set_option maxHeartbeats 4000000
set_option maxRecDepth 10000
open Go.Eng Go.Eng.Pure
set_option linter.unusedVariables false
theorem zFr {w0:World} {H0:Hp} (hw:Holds w0 H0) (hG:Tryz.Gl w0) {d:GConfig} {al:Str} {c:(GRequest×GURI×Unit)} {ae:Str} {b:(GResponse×Int×Int)} {u:Nat} {aa:Nat} {k:Value} {av:Nat} {am:Nat} {an:Nat} {x:Value} {q:Nat} {t:Nat} {af:Hp} {w:World} (S:St w0 H0 w af [.box av 24 [(int b.1.fMinor),(int b.1.fStatus),(str b.1.fReason),k,(str b.1.fBody)],.box am 56 [(str []),(str [])],.box an 56 [(str []),(str al)],.box aa 111 [(str c.1.fMethod),(str c.1.fTarget),(int c.1.fMinor),x,(str c.1.fBody),(str c.2.1.fHost),(int c.2.1.fPort),(str c.2.1.fPath),(str c.2.1.fQuery),(boo c.2.1.fHasQuery),(str ae),(int 0),(boo false),(int 0),(.slice none 0 0),(.slice none 0 0),(.slice none 0 0),(str []),(.slice none 0 0),(str []),(int 0),(int 0)],.box u 54 [(str d.fName),(int d.fBytes),(int d.fVariants),(int d.fTables),(boo d.fStrict),(boo d.fRefuse),(ptr q 0),(int 0),(.pointer none)],.box q 136 [(int d.fBytes),(int d.fVariants),(int d.fTables),(int 0),(.slice none 0 0),(mapv t)],.mp t []]) (aj:Sl af k b.1.fFields) (aw:Sl af x c.1.fFields) {ab:Str} {br:Int} {bs:Int} {bt:(List Str)} {a8:GTable} (h:zCx d c ae b=some (ab,br,bs,bt,a8)) {K:Value→World→Prop}
  (hK:∀ (a9:Ent) (ac:Nat) (ba:Value) (bb:Value) (bc:Value) (Hz:Hp),af.le Hz→MR (α:=Str) Hz a9 9 ba bt→Sl Hz bb a8.fAxes→Sl Hz bc a8.fEntries→∀ w',St w0 H0 w' Hz [a9,.box ac 56 [(str ab),(str [])],.box am 56 [(str []),(str [])],.box an 56 [(str []),(str al)],.box u 54 [(str d.fName),(int d.fBytes),(int d.fVariants),(int d.fTables),(boo d.fStrict),(boo d.fRefuse),(ptr q 0),(int 0),(.pointer none)],.box q 136 [(int d.fBytes),(int d.fVariants),(int d.fTables),(int (wr (0+(wr (br - bs))))),ba,(mapv t)],.mp t (encm (fun v=>v) [(ae,(agg [bb,bc]))])]→K (agg [(str ab),(str [])]) w') :
  CallK Tryz.prog 61 [(ptr u 0),(ptr aa 0),(agg [(int b.1.fMinor),(int b.1.fStatus),(str b.1.fReason),k,(str b.1.fBody)])] w K:=by
 unfold zCx at h
 refine zAi (N':=109) Tryz.func61 rfl rfl kr rfl<|Ws<|Wg ?_
 refine W.box [(int b.1.fMinor),(int b.1.fStatus),(str b.1.fReason),k,(str b.1.fBody)] S rfl rfl ?_
 intro ax dm S
 refine W.alloc [(str []),(str [])] S zer56 ?_
 intro ac dn S
 refine We<|Ws<|Wg ?_
 refine WL.w (R.loadBN (i:=1) (vs:=[(int b.1.fMinor),(int b.1.fStatus),(str b.1.fReason),k,(str b.1.fBody)]) S rfl rfl lay24 rfl rfl) ?_
 refine W.alloc [(int 0),(int 0),(str []),(.slice none 0 0),(str [])] S zer24 ?_
 intro bd dp S
 refine W.store (i:=0) [(int b.1.fMinor),(int b.1.fStatus),(str b.1.fReason),k,(str b.1.fBody)] S rfl rfl rfl lay24 rfl (AllOne.all (l:=[(int b.1.fMinor),(int b.1.fStatus),(str b.1.fReason),k,(str b.1.fBody)]) (.cons rfl (.cons rfl (.cons rfl (.cons (Sl.oneC aj) (.cons rfl .nil)))))) (Nat.le_of_ble_eq_true rfl) rfl ?_
 intro dq S
 refine We<|Ws<|B h fun cw cx h=>B h fun bu cy h=>WP.cut (fun f w=>∃ (ao:Hp) (ah:Value),f 0=(ptr u 0)∧f 1=(ptr aa 0)∧f 5=(ptr ax 0)∧f 6=(ptr ac 0)∧f 7=(ptr bd 0)∧Sl ao ah bu∧Sl ao k b.1.fFields∧Sl ao x c.1.fFields∧Hp.le af ao∧St w0 H0 w ao [.box bd 24 [(int b.1.fMinor),(int b.1.fStatus),(str b.1.fReason),ah,(str b.1.fBody)],.box ac 56 [(str []),(str [])],.box ax 24 [(int b.1.fMinor),(int b.1.fStatus),(str b.1.fReason),k,(str b.1.fBody)],.box av 24 [(int b.1.fMinor),(int b.1.fStatus),(str b.1.fReason),k,(str b.1.fBody)],.box am 56 [(str []),(str [])],.box an 56 [(str []),(str al)],.box aa 111 [(str c.1.fMethod),(str c.1.fTarget),(int c.1.fMinor),x,(str c.1.fBody),(str c.2.1.fHost),(int c.2.1.fPort),(str c.2.1.fPath),(str c.2.1.fQuery),(boo c.2.1.fHasQuery),(str ae),(int 0),(boo false),(int 0),(.slice none 0 0),(.slice none 0 0),(.slice none 0 0),(str []),(.slice none 0 0),(str []),(int 0),(int 0)],.box u 54 [(str d.fName),(int d.fBytes),(int d.fVariants),(int d.fTables),(boo d.fStrict),(boo d.fRefuse),(ptr q 0),(int 0),(.pointer none)],.box q 136 [(int d.fBytes),(int d.fVariants),(int d.fTables),(int 0),(.slice none 0 0),(mapv t)],.mp t []]) ?_ ?_
 ·refine WP.drawC (Cl w0 H0 af [.box ac 56 [(str []),(str [])],.box ax 24 [(int b.1.fMinor),(int b.1.fStatus),(str b.1.fReason),k,(str b.1.fBody)],.box av 24 [(int b.1.fMinor),(int b.1.fStatus),(str b.1.fReason),k,(str b.1.fBody)],.box am 56 [(str []),(str [])],.box an 56 [(str []),(str al)],.box aa 111 [(str c.1.fMethod),(str c.1.fTarget),(int c.1.fMinor),x,(str c.1.fBody),(str c.2.1.fHost),(int c.2.1.fPort),(str c.2.1.fPath),(str c.2.1.fQuery),(boo c.2.1.fHasQuery),(str ae),(int 0),(boo false),(int 0),(.slice none 0 0),(.slice none 0 0),(.slice none 0 0),(str []),(.slice none 0 0),(str []),(int 0),(int 0)],.box u 54 [(str d.fName),(int d.fBytes),(int d.fVariants),(int d.fTables),(boo d.fStrict),(boo d.fRefuse),(ptr q 0),(int 0),(.pointer none)],.box q 136 [(int d.fBytes),(int d.fVariants),(int d.fTables),(int 0),(.slice none 0 0),(mapv t)],.mp t []]) kr 13 rfl (bm 13 0) rfl ?_
  have S:=S.drew
  refine Ct 0 13 1 rfl (fun _ _=>(R.fieldB rfl zHO)) ?_
  refine Ct 1 13 3 rfl (fun w hw=>by obtain ⟨_,hq,S⟩:=hw; exact (R.loadB (i:=1) (v:=k) S rfl rfl lay22 rfl)) ?_
  refine Ct 3 13 11 rfl (fun _ _=>(R.fieldB rfl zIO)) ?_
  refine Ct 4 13 27 rfl (fun w hw=>by obtain ⟨_,hq,S⟩:=hw; exact (R.loadB (i:=1) (v:=int b.1.fMinor) S rfl rfl lay3 rfl)) ?_
  refine Ct 5 13 59 rfl (fun _ _=>(R.mv (v:=ptr u 0) rfl)) ?_
  refine Ct 6 13 123 rfl (fun _ _=>(R.nilCheckB rfl)) ?_
  refine Ct 7 13 251 rfl (fun _ _=>(R.fieldB rfl zG9)) ?_
  refine Ct 8 13 507 rfl (fun _ _=>(R.fieldB rfl zHp)) ?_
  refine Ct 9 13 1019 rfl (fun w hw=>by obtain ⟨_,hq,S⟩:=hw; exact (R.loadB (i:=6) (v:=str d.fName) S rfl rfl lay9 rfl)) ?_
  refine Cx [2] ⟨af,lr,(S.pk [1,2,3,4,5,6,7,8,9])⟩ (all1 ?_)
  refine Nx 13 1023 rfl<|W.call S rfl (zAL S.holds (hG.post S.post) b.1.fFields aj cx) ?_
  rintro dr ds cz ay S c0
  have ⟨aj,aw⟩:=U2 ay aj aw
  refine We ?_
  refine Cx [10] ⟨cz,ay,(S.pk [1,2,3,4,5,6,7,8,9])⟩ (all1 ?_)
  refine Nx 13 2047 rfl<|W.call S rfl (zAM S.holds (hG.post S.post) cw b.1.fMinor d.fName c0 cy) ?_
  rintro cc dt bv be S cd
  have ⟨aj,aw⟩:=U2 be aj aw
  refine We ?_
  refine Ct 11 13 4095 rfl (fun _ _=>(R.fieldB rfl zHO)) ?_
  refine Cx [12] ⟨bv,(ay.trans be),(S.pk [1,2,3,4,5,6,7,8,9])⟩ (all1 ?_)
  refine Nx 13 8191 rfl ?_
  refine W.storeSl (α:=GField) (i:=0) [(int b.1.fMinor),(int b.1.fStatus),(str b.1.fReason),cc,(str b.1.fBody)] S cd rfl rfl rfl lay22 (Nat.le_of_ble_eq_true rfl) rfl ?_
  intro du S
  refine We<|WC.done ⟨bv,(ay.trans be),(S.pk [1,2,3,4,5,6,7,8,9])⟩ kr ?_
  exact ⟨bv,cc,rfl,rfl,rfl,rfl,rfl,cd,aj,aw,(ay.trans be),S⟩
 rintro f w ⟨ao,ah,bw,ak,bx,ce,cf,r,p,o,cg,S⟩
 refine Ws<|Wg<|Fb' cf ?_
 refine W.store (i:=0) [(int 1),(int b.1.fStatus),(str b.1.fReason),ah,(str b.1.fBody)] S rfl rfl rfl lay3 rfl rfl (Nat.le_of_ble_eq_true rfl) rfl ?_
 intro dv S
 refine We<|Ws<|WP.quiet S kr kr<|QM' ak<|QNn<|QFb ?_
 refine WQ.val (fun w hw=>by obtain ⟨_,hq,S⟩:=hw; exact (R.loadBN (i:=6) (vs:=[(str c.1.fMethod),(str c.1.fTarget),(int c.1.fMinor),x,(str c.1.fBody)]) S rfl rfl lay94 rfl rfl)) ?_
 refine WQ.val (fun w hw=>by obtain ⟨_,hq,S⟩:=hw; exact (R.loadBN (i:=0) (vs:=[(int 1),(int b.1.fStatus),(str b.1.fReason),ah,(str b.1.fBody)]) S cf rfl lay24 rfl rfl))<|B h fun ab c1 h=>WQ.call (v:=str ab) rfl (fun w H' hq S=>zEF S.holds (hG.post S.post) c.1 (⟨1,b.1.fStatus,b.1.fReason,bu,b.1.fBody⟩:GResponse) (o.up hq) (r.up hq) c1)<|QA<|WQ.nil ?_
 intro dw dx bz S
 have ⟨o,r,p⟩:=U3 bz o r p
 refine Ws<|Ws<|Wg<|M<|Na<|We ?_
 rcases condE h with ⟨b0,h⟩ | ⟨b0,h⟩
 ·refine CT b0 ?_
  cases h
 refine CF b0<|Wk<|Ws<|Ws<|WP.quiet S kr kr<|QM' ak<|QNn<|QFb<|QFb ?_
 refine QB 6 (str c.1.fMethod)<|QFb' bx ?_
 refine QB 2 (int b.1.fStatus)<|B h fun c2 c3 h=>WQ.call (v:=boo c2) rfl (fun w H' hq S=>zEK S.holds (hG.post S.post) c.1.fMethod b.1.fStatus c3)<|WQ.nil ?_
 intro dy dz b1 S
 have ⟨o,r,p⟩:=U3 b1 o r p
 rcases condE h with ⟨b2,h⟩ | ⟨b2,h⟩
 ·refine CT b2 ?_
  cases h
 refine CF b2<|Wk<|Ws<|Ws<|WP.quiet S kr kr<|QM' ak<|QNn<|QFb ?_
 refine WQ.val (fun w hw=>by obtain ⟨_,hq,S⟩:=hw; exact (R.loadBN (i:=6) (vs:=[(str c.1.fMethod),(str c.1.fTarget),(int c.1.fMinor),x,(str c.1.fBody)]) S rfl rfl lay94 rfl rfl)) ?_
 refine WQ.val (fun w hw=>by obtain ⟨_,hq,S⟩:=hw; exact (R.loadBN (i:=2) (vs:=[(int b.1.fMinor),(int b.1.fStatus),(str b.1.fReason),k,(str b.1.fBody)]) S bx rfl lay24 rfl rfl))<|B h fun c4 c5 h=>WQ.call (v:=boo c4) rfl (fun w H' hq S=>zEr S.holds (hG.post S.post) c.1 b.1 (o.up hq) (p.up hq) c5)<|WQ.nil ?_
 intro d0 b3 b4 S
 have ⟨o,r,p⟩:=U3 b4 o r p
 rcases condE h with ⟨b5,h⟩ | ⟨b5,h⟩
 ·refine CT b5<|Ws<|B h fun j ch h=>WP.cut (fun f w=>∃ (z:Hp) (b6:Nat) (b7:Value) (az:Value) (a0:Value) (a1:Value) (a2:Value),f 0=(ptr u 0)∧f 1=(ptr aa 0)∧f 6=(ptr ac 0)∧f 8=(str ab)∧f 11=(ptr b6 0)∧f 12=b7∧Sl z b7 j.2∧Sl z az j.1.fKeys∧Sl z a0 j.1.fVary∧Sl z a1 j.1.fSnapshot∧Sl z a2 j.1.fFields∧Sl z ah bu∧Sl z k b.1.fFields∧Sl z x c.1.fFields∧Hp.le af z∧St w0 H0 w z [.box b6 92 [az,a0,a1,(str j.1.fReason),a2,(str j.1.fBody),(int j.1.fRequested),(int j.1.fReceived)],.box bd 24 [(int 1),(int b.1.fStatus),(str b.1.fReason),ah,(str b.1.fBody)],.box ac 56 [(str []),(str [])],.box ax 24 [(int b.1.fMinor),(int b.1.fStatus),(str b.1.fReason),k,(str b.1.fBody)],.box av 24 [(int b.1.fMinor),(int b.1.fStatus),(str b.1.fReason),k,(str b.1.fBody)],.box am 56 [(str []),(str [])],.box an 56 [(str []),(str al)],.box aa 111 [(str c.1.fMethod),(str c.1.fTarget),(int c.1.fMinor),x,(str c.1.fBody),(str c.2.1.fHost),(int c.2.1.fPort),(str c.2.1.fPath),(str c.2.1.fQuery),(boo c.2.1.fHasQuery),(str ae),(int 0),(boo false),(int 0),(.slice none 0 0),(.slice none 0 0),(.slice none 0 0),(str []),(.slice none 0 0),(str []),(int 0),(int 0)],.box u 54 [(str d.fName),(int d.fBytes),(int d.fVariants),(int d.fTables),(boo d.fStrict),(boo d.fRefuse),(ptr q 0),(int 0),(.pointer none)],.box q 136 [(int d.fBytes),(int d.fVariants),(int d.fTables),(int 0),(.slice none 0 0),(mapv t)],.mp t []]) ?_ ?_
  ·refine WP.drawC (Cl w0 H0 b3 [.box bd 24 [(int 1),(int b.1.fStatus),(str b.1.fReason),ah,(str b.1.fBody)],.box ac 56 [(str []),(str [])],.box ax 24 [(int b.1.fMinor),(int b.1.fStatus),(str b.1.fReason),k,(str b.1.fBody)],.box av 24 [(int b.1.fMinor),(int b.1.fStatus),(str b.1.fReason),k,(str b.1.fBody)],.box am 56 [(str []),(str [])],.box an 56 [(str []),(str al)],.box aa 111 [(str c.1.fMethod),(str c.1.fTarget),(int c.1.fMinor),x,(str c.1.fBody),(str c.2.1.fHost),(int c.2.1.fPort),(str c.2.1.fPath),(str c.2.1.fQuery),(boo c.2.1.fHasQuery),(str ae),(int 0),(boo false),(int 0),(.slice none 0 0),(.slice none 0 0),(.slice none 0 0),(str []),(.slice none 0 0),(str []),(int 0),(int 0)],.box u 54 [(str d.fName),(int d.fBytes),(int d.fVariants),(int d.fTables),(boo d.fStrict),(boo d.fRefuse),(ptr q 0),(int 0),(.pointer none)],.box q 136 [(int d.fBytes),(int d.fVariants),(int d.fTables),(int 0),(.slice none 0 0),(mapv t)],.mp t []]) kr 20 rfl (bm 20 0) rfl ?_
   have S:=S.drew
   refine Ct 0 20 1 rfl (fun _ _=>(R.mv (v:=ptr aa 0) ak)) ?_
   refine Ct 1 20 3 rfl (fun _ _=>(R.nilCheckB rfl)) ?_
   refine Ct 2 20 7 rfl (fun _ _=>(R.fieldB rfl zHu)) ?_
   refine Ct 3 20 15 rfl (fun w hw=>by obtain ⟨_,hq,S⟩:=hw; exact (R.loadBN (i:=6) (vs:=[(str c.1.fMethod),(str c.1.fTarget),(int c.1.fMinor),x,(str c.1.fBody)]) S rfl rfl lay94 rfl rfl)) ?_
   refine Ct 4 20 31 rfl (fun w hw=>by obtain ⟨_,hq,S⟩:=hw; exact (R.loadBN (i:=2) (vs:=[(int b.1.fMinor),(int b.1.fStatus),(str b.1.fReason),k,(str b.1.fBody)]) S bx rfl lay24 rfl rfl)) ?_
   refine Ct 5 20 63 rfl (fun _ _=>(R.mv (v:=ptr aa 0) ak)) ?_
   refine Ct 6 20 127 rfl (fun _ _=>(R.nilCheckB rfl)) ?_
   refine Ct 7 20 255 rfl (fun _ _=>(R.fieldB rfl zHt)) ?_
   refine Ct 8 20 511 rfl (fun w hw=>by obtain ⟨_,hq,S⟩:=hw; exact (R.loadB (i:=6) (v:=int 0) S rfl rfl lay2 rfl)) ?_
   refine Ct 9 20 1023 rfl (fun _ _=>(R.mv (v:=ptr u 0) bw)) ?_
   refine Ct 10 20 2047 rfl (fun _ _=>(R.nilCheckB rfl)) ?_
   refine Ct 11 20 4095 rfl (fun _ _=>(R.fieldB rfl zG0)) ?_
   refine Ct 12 20 8191 rfl (fun w hw=>by obtain ⟨_,hq,S⟩:=hw; exact (R.loadB (i:=7) (v:=int 0) S rfl rfl lay2 rfl)) ?_
   refine Cx [13,17] ⟨b3,lr,S⟩ (allS ?_ (all1 ?_))
   ·refine Nx 20 16383 rfl<|W.call S rfl (zFJ S.holds (hG.post S.post) c.1 b.1 0 0 o p ch) ?_
    rintro d1 d2 bf a3 S ⟨bg,bh,bi,bj,b8,rfl,ci,cj,ck,cl,c6⟩
    have ⟨o,r,p⟩:=U3 a3 o r p
    refine We ?_
    refine Ct 14 20 32767 rfl (fun _ _=>(R.mv (v:=.tuple ⟨[(agg [bg,bh,bi,(str j.1.fReason),bj,(str j.1.fBody),(int j.1.fRequested),(int j.1.fReceived)]),b8]⟩) rfl)) ?_
    refine Ct 15 20 65535 rfl (fun _ _=>(R.ext rfl rfl)) ?_
    refine Ct 16 20 131071 rfl (fun _ _=>(R.ext rfl rfl)) ?_
    refine Cx [17] ⟨bf,a3,S⟩ (all1 ?_)
    refine Nx 20 262143 rfl ?_
    refine W.alloc [(.slice none 0 0),(.slice none 0 0),(.slice none 0 0),(str []),(.slice none 0 0),(str []),(int 0),(int 0)] S zer92 ?_
    intro c7 d3 S
    refine We ?_
    refine Cx [18] ⟨bf,a3,(S.pk [1,2,3,4,5,6,7,8,9,10])⟩ (all1 ?_)
    refine Nx 20 524287 rfl ?_
    refine W.store (i:=0) [bg,bh,bi,(str j.1.fReason),bj,(str j.1.fBody),(int j.1.fRequested),(int j.1.fReceived)] S rfl rfl rfl lay92 rfl (AllOne.all (l:=[bg,bh,bi,(str j.1.fReason),bj,(str j.1.fBody),(int j.1.fRequested),(int j.1.fReceived)]) (.cons (Sl.oneC ci) (.cons (Sl.oneC cj) (.cons (Sl.oneC ck) (.cons rfl (.cons (Sl.oneC cl) (.cons rfl (.cons rfl (.cons rfl .nil))))))))) (Nat.le_of_ble_eq_true rfl) rfl ?_
    intro d4 S
    refine We ?_
    refine Ct 19 20 1048575 rfl (fun _ _=>(R.as (v:=b8) rfl))<|WC.done ⟨bf,a3,(S.pk [1,2,3,4,5,6,7,8,9,10])⟩ kr ?_
    exact ⟨bf,c7,b8,bg,bh,bi,bj,bw,ak,ce,rfl,rfl,rfl,c6,ci,cj,ck,cl,r,p,o,((((cg.trans bz).trans b1).trans b4).trans a3),S⟩
   refine Nx 20 139263 rfl ?_
   refine W.alloc [(.slice none 0 0),(.slice none 0 0),(.slice none 0 0),(str []),(.slice none 0 0),(str []),(int 0),(int 0)] S zer92 ?_
   intro c8 d5 S
   refine We ?_
   refine Cx [13] ⟨b3,lr,(S.pk [1,2,3,4,5,6,7,8,9,10])⟩ (all1 ?_)
   refine Nx 20 147455 rfl<|W.call S rfl (zFJ S.holds (hG.post S.post) c.1 b.1 0 0 o p ch) ?_
   rintro d6 d7 b9 bk S ⟨bn,bo,bp,bq,ca,rfl,cm,cn,co,cp,c9⟩
   have ⟨o,r,p⟩:=U3 bk o r p
   refine We ?_
   refine Ct 14 20 163839 rfl (fun _ _=>(R.mv (v:=.tuple ⟨[(agg [bn,bo,bp,(str j.1.fReason),bq,(str j.1.fBody),(int j.1.fRequested),(int j.1.fReceived)]),ca]⟩) rfl)) ?_
   refine Ct 15 20 196607 rfl (fun _ _=>(R.ext rfl rfl)) ?_
   refine Ct 16 20 262143 rfl (fun _ _=>(R.ext rfl rfl)) ?_
   refine Cx [18] ⟨b9,bk,(S.pk [1,2,3,4,5,6,7,8,9,10])⟩ (all1 ?_)
   refine Nx 20 524287 rfl ?_
   refine W.store (i:=0) [bn,bo,bp,(str j.1.fReason),bq,(str j.1.fBody),(int j.1.fRequested),(int j.1.fReceived)] S rfl rfl rfl lay92 rfl (AllOne.all (l:=[bn,bo,bp,(str j.1.fReason),bq,(str j.1.fBody),(int j.1.fRequested),(int j.1.fReceived)]) (.cons (Sl.oneC cm) (.cons (Sl.oneC cn) (.cons (Sl.oneC co) (.cons rfl (.cons (Sl.oneC cp) (.cons rfl (.cons rfl (.cons rfl .nil))))))))) (Nat.le_of_ble_eq_true rfl) rfl ?_
   intro d8 S
   refine We ?_
   refine Ct 19 20 1048575 rfl (fun _ _=>(R.as (v:=ca) rfl))<|WC.done ⟨b9,bk,(S.pk [1,2,3,4,5,6,7,8,9,10])⟩ kr ?_
   exact ⟨b9,c8,ca,bn,bo,bp,bq,bw,ak,ce,rfl,rfl,rfl,c9,cm,cn,co,cp,r,p,o,((((cg.trans bz).trans b1).trans b4).trans bk),S⟩
  rintro f w ⟨z,b6,b7,az,a0,a1,a2,cq,da,cr,db,ct,dc,a4,ap,aq,ar,au,a5,a6,a7,dd,S⟩
  refine Ws<|WP.quiet S kr kr ?_
  refine WQ.val (fun w hw=>by obtain ⟨_,hq,S⟩:=hw; exact (R.loadBN (i:=0) (vs:=[az,a0,a1,(str j.1.fReason),a2,(str j.1.fBody),(int j.1.fRequested),(int j.1.fReceived)]) S ct rfl lay92 rfl rfl))<|QM' cq<|QNn<|QFb<|QFb ?_
  refine QB 8 (str d.fName)<|B h fun de df h=>WQ.call (v:=boo de) rfl (fun w H' hq S=>zF9 S.holds (hG.post S.post) j.1 d.fName (ap.up hq) (aq.up hq) (ar.up hq) (au.up hq) df)<|WQ.nil ?_
  intro d9 ea cu S
  have ⟨a4,ap,aq,ar,au,a5,a6,a7⟩:=U8 cu a4 ap aq ar au a5 a6 a7
  rcases condE h with ⟨cb,h⟩ | ⟨cb,h⟩
  ·refine CT cb<|WP.quietTail 10 S kr kr<|QM' cq<|QNn<|QFb ?_
   refine QB 8 (ptr q 0)<|QM' da<|QNn<|QFb ?_
   refine QB 7 (str ae) ?_
   refine WQ.val (fun w hw=>by obtain ⟨_,hq,S⟩:=hw; exact (R.loadBN (i:=0) (vs:=[az,a0,a1,(str j.1.fReason),a2,(str j.1.fBody),(int j.1.fRequested),(int j.1.fReceived)]) S ct rfl lay92 rfl rfl))<|QM' dc ?_
   refine WQ.nil ?_
   intro eb ec cv S
   have ⟨a4,ap,aq,ar,au,a5,a6,a7⟩:=U8 cv a4 ap aq ar au a5 a6 a7
   obtain ⟨⟨br,bs,bt,a8⟩,dg,h⟩:=bindE h
   refine callK rfl (zFn hw (hG) S ap aq ar au a4 a5 a6 a7 dg ?_)
   intro a9 ba bb bc dh di dj dk dl ed S
   refine We<|Ws<|Wg<|M' db ?_
   refine WL.w (R.build [(0,(str ab))] [(str ab),(str [])] bp56 zer56 rfl rfl) ?_
   refine W.store (i:=1) [(str ab),(str [])] S cr rfl rfl lay56 rfl rfl (Nat.le_of_ble_eq_true rfl) rfl ?_
   intro ee S
   refine We ?_
   refine WP.ret (In.one rfl (Res.cellB (i:=1) (cs:=[(str ab),(str [])]) S cr rfl lay56 rfl rfl) ?_)
   cases oi h
   exact hK a9 ac ba bb bc dh (((dd.trans cu).trans cv).trans di) dj dk dl _ S
  refine CF cb ?_
  cases h
 refine CF b5 ?_
 cases h
theorem zFq {t:World} {H0:Hp} (hw:Holds t H0) (hG:Tryz.Gl t) {c:GConfig} {aj:Str} {f:(GRequest×GURI×Unit)} {ab:Str} {u:Nat} {ak:Nat} {ar:Nat} {al:Value} {q:Nat} {r:Nat} {au:Hp} {w:World} (S:St t H0 w au [.box ak 56 [(str []),(str aj)],.box ar 111 [(str f.1.fMethod),(str f.1.fTarget),(int f.1.fMinor),al,(str f.1.fBody),(str f.2.1.fHost),(int f.2.1.fPort),(str f.2.1.fPath),(str f.2.1.fQuery),(boo f.2.1.fHasQuery),(str ab),(int 0),(boo false),(int 0),(.slice none 0 0),(.slice none 0 0),(.slice none 0 0),(str []),(.slice none 0 0),(str []),(int 0),(int 0)],.box u 54 [(str c.fName),(int c.fBytes),(int c.fVariants),(int c.fTables),(boo c.fStrict),(boo c.fRefuse),(ptr q 0),(int 0),(ptr ar 0)],.box q 136 [(int c.fBytes),(int c.fVariants),(int c.fTables),(int 0),(.slice none 0 0),(mapv r)],.mp r []]) (ac:Sl au al f.1.fFields) {x:Str} {am:Int} {an:Int} {av:(List Str)} {ao:GTable} (h:zCt c f ab=some (x,am,an,av,ao)) {K:Value→World→Prop}
  (hK:∀ (ad:Ent) (ae:Nat) (af:Value) (ah:Value) (ai:Value) (Hz:Hp),au.le Hz→MR (α:=Str) Hz ad 9 af av→Sl Hz ah ao.fAxes→Sl Hz ai ao.fEntries→∀ w',St t H0 w' Hz [ad,.box ae 56 [(str x),(str [])],.box ak 56 [(str []),(str aj)],.box u 54 [(str c.fName),(int c.fBytes),(int c.fVariants),(int c.fTables),(boo c.fStrict),(boo c.fRefuse),(ptr q 0),(int 0),(.pointer none)],.box q 136 [(int c.fBytes),(int c.fVariants),(int c.fTables),(int (wr (0+(wr (am - an))))),af,(mapv r)],.mp r (encm (fun v=>v) [(ab,(agg [ah,ai]))])]→K (.tuple ⟨[(agg [(str x),(str [])]),(int 0)]⟩) w') :
  CallK Tryz.prog 27 [(ptr u 0),(str [72,84,84,80,47,49,46,49,32,50,48,48,32,79,75,13,10,67,97,99,104,101,45,67,111,110,116,114,111,108,58,32,109,97,120,45,97,103,101,61,54,48,13,10,67,111,110,116,101,110,116,45,76,101,110,103,116,104,58,32,49,13,10,13,10,120])] w K:=by
 unfold zCt at h
 refine zAi (N':=109) Tryz.func27 rfl rfl kr rfl<|Ws<|Wg ?_
 refine W.alloc [(str []),(str [])] S zer56 ?_
 intro ae bb S
 refine A<|We<|Ws<|Ws<|Wg<|M<|W.inl (args:=[(ptr u 0)]) rfl (N':=12) Tryz.func38 rfl rfl kr rfl<|Ws<|Wg<|A<|We<|Ws ?_
 refine Wg<|M ?_
 refine WL.w (v:=boo true) (R.ofEq (R.neqPN rfl rfl Tryz.underlying34) rfl)<|M<|Gy rfl<|M<|Gy rfl<|Nn<|Gy rfl<|Fb<|Gy rfl ?_
 refine Lo 3 S ?_
 refine Gy rfl ?_
 refine WL.w (v:=boo true) (R.ofEq (R.neqPN rfl rfl Tryz.underlying51) rfl)<|Pt rfl<|A<|We ?_
 refine WP.ret (In.one rfl rfl ?_)
 refine WL.w (v:=boo false) (R.ofEq (R.not rfl) rfl)<|M<|Gy rfl<|M<|Gy rfl<|Nn<|Gy rfl<|Fb<|Gy rfl ?_
 refine Lo 3 S<|Gy rfl ?_
 refine WL.w (v:=boo false) (R.ofEq (R.eqlPN rfl rfl Tryz.underlying52) rfl) ?_
 refine Pf rfl<|We<|WP.condF (b:=false) rfl rfl<|Wk<|Ws<|Wg<|M<|Nn<|Fb ?_
 refine Lo 3 S<|A<|We ?_
 refine Ws<|Wg<|M<|Nn<|Fb ?_
 refine W.store (i:=3) [(str c.fName),(int c.fBytes),(int c.fVariants),(int c.fTables),(boo c.fStrict),(boo c.fRefuse),(ptr q 0),(int 0),(.pointer none)] S rfl rfl rfl lay52 rfl rfl (Nat.le_of_ble_eq_true rfl) rfl ?_
 intro bc S
 refine We<|Ws<|Wg<|M<|M<|Nn<|Fb<|Fb ?_
 refine Lo 2 S<|B h fun d a3 h=>W.call S rfl (zDf S.holds (hG.post S.post) [72,84,84,80,47,49,46,49,32,50,48,48,32,79,75,13,10,67,97,99,104,101,45,67,111,110,116,114,111,108,58,32,109,97,120,45,97,103,101,61,54,48,13,10,67,111,110,116,101,110,116,45,76,101,110,103,116,104,58,32,49,13,10,13,10,120] f.1.fMethod true a3) ?_
 rintro bd be az a0 S ⟨ap,rfl,aq⟩
 have ac:=ac.up a0
 refine M ?_
 refine Ex ?_
 refine Ex ?_
 refine Ex ?_
 refine W.alloc [(int 0),(int 0),(str []),(.slice none 0 0),(str [])] S zer24 ?_
 intro a4 bf S
 refine W.store (i:=0) [(int d.1.fMinor),(int d.1.fStatus),(str d.1.fReason),ap,(str d.1.fBody)] S rfl rfl rfl lay24 rfl (AllOne.all (l:=[(int d.1.fMinor),(int d.1.fStatus),(str d.1.fReason),ap,(str d.1.fBody)]) (.cons rfl (.cons rfl (.cons rfl (.cons (Sl.oneC aq) (.cons rfl .nil)))))) (Nat.le_of_ble_eq_true rfl) rfl ?_
 intro bg S
 refine A<|A<|We<|Ws<|Wb<|Ws<|Wg<|M<|Lf<|M ?_
 refine WL.grp 5 [43,44,45,46] 47 (boo ((d.2.2 !=0)||(d.2.1 !=([72,84,84,80,47,49,46,49,32,50,48,48,32,79,75,13,10,67,97,99,104,101,45,67,111,110,116,114,111,108,58,32,109,97,120,45,97,103,101,61,54,48,13,10,67,111,110,116,101,110,116,45,76,101,110,103,116,104,58,32,49,13,10,13,10,120].length:Int)))) ?_ ?_
 ·rcases boolE (d.2.2 !=0) with k | k
  ·refine Gn k<|Gn k<|Gn k<|Gn k<|Pt k ?_
   exact We ⟨(orT k),ag,rfl⟩
  refine Gy k<|M<|Gy k<|M<|Gy k<|Ns<|Gy k<|Lf<|Pf k ?_
  exact We ⟨(orF k),ag,rfl⟩
 intro us
 refine M ?_
 refine WL.grp 4 [49,50,51] 52 (boo (((d.2.2 !=0)||(d.2.1 !=([72,84,84,80,47,49,46,49,32,50,48,48,32,79,75,13,10,67,97,99,104,101,45,67,111,110,116,114,111,108,58,32,109,97,120,45,97,103,101,61,54,48,13,10,67,111,110,116,101,110,116,45,76,101,110,103,116,104,58,32,49,13,10,13,10,120].length:Int)))||(decide (d.1.fStatus<200)))) ?_ ?_
 ·rcases boolE ((d.2.2 !=0)||(d.2.1 !=([72,84,84,80,47,49,46,49,32,50,48,48,32,79,75,13,10,67,97,99,104,101,45,67,111,110,116,114,111,108,58,32,109,97,120,45,97,103,101,61,54,48,13,10,67,111,110,116,101,110,116,45,76,101,110,103,116,104,58,32,49,13,10,13,10,120].length:Int))) with p | p
  ·refine Gn p<|Gn p<|Gn p<|Pt p ?_
   exact We ⟨(orT p),ag,rfl⟩
  refine Gy p<|Fb<|Gy p ?_
  refine Lo 0 S<|Gy p<|La<|Pf p ?_
  exact We ⟨(orF p),ag,rfl⟩
 intro us
 refine A<|We ?_
 rcases condE h with ⟨aw,h⟩ | ⟨aw,h⟩
 ·refine CT aw ?_
  cases h
 refine CF aw<|Ws<|Wg<|Fb ?_
 refine Lo 0 S<|Le<|M ?_
 refine WL.grp 5 [63,64,65,66] 67 (boo ((d.1.fStatus==304)&&false)) ?_ ?_
 ·rcases boolE (d.1.fStatus==304) with o | o
  ·refine Gy o<|M<|Gy o<|Nn<|Gy o<|Fb<|Gy o ?_
   refine Lo 3 S<|Pt o ?_
   exact We ⟨(andT o),ag,rfl⟩
  refine Gn o<|Gn o<|Gn o<|Gn o<|Pf o ?_
  exact We ⟨(andF o),ag,rfl⟩
 intro us
 refine A<|We ?_
 rcases condE h with ⟨ax,h⟩ | ⟨ax,h⟩
 ·refine CT ax ?_
  cases h
 refine CF ax<|Ws<|Wg<|Fb ?_
 refine Lo 0 S<|Le<|M<|B h fun a5 z h=>WL.grpw 23 [77,78,79,80,81,82,83,84,85,86,87,88,89,90,91,92,93,94,95,96,97,98] 99 (boo a5) (fun w=>∃ H':Hp,az.le H'∧St t H0 w H' [.box a4 24 [(int d.1.fMinor),(int d.1.fStatus),(str d.1.fReason),ap,(str d.1.fBody)],.box ae 56 [(str []),(str [])],.box ak 56 [(str []),(str aj)],.box ar 111 [(str f.1.fMethod),(str f.1.fTarget),(int f.1.fMinor),al,(str f.1.fBody),(str f.2.1.fHost),(int f.2.1.fPort),(str f.2.1.fPath),(str f.2.1.fQuery),(boo f.2.1.fHasQuery),(str ab),(int 0),(boo false),(int 0),(.slice none 0 0),(.slice none 0 0),(.slice none 0 0),(str []),(.slice none 0 0),(str []),(int 0),(int 0)],.box u 54 [(str c.fName),(int c.fBytes),(int c.fVariants),(int c.fTables),(boo c.fStrict),(boo c.fRefuse),(ptr q 0),(int 0),(.pointer none)],.box q 136 [(int c.fBytes),(int c.fVariants),(int c.fTables),(int 0),(.slice none 0 0),(mapv r)],.mp r []]) ?_ ?_
 ·rcases boolE (d.1.fStatus==304) with j | j
  ·replace z:=condT z j
   refine Gy j<|M<|Gy j<|Nn<|Gy j<|Fb<|Gy j ?_
   refine WL.w (R.loadBN (i:=3) (vs:=[(str f.1.fMethod),(str f.1.fTarget),(int f.1.fMinor),al,(str f.1.fBody)]) S rfl rfl lay94 rfl rfl)<|Gy j ?_
   cases z
  replace z:=condF z j
  refine Gn j<|Gn j<|Gn j<|Gn j<|Gn j<|Gn j<|Gn j<|WL.gund rfl rfl<|WL.gund rfl rfl<|WL.gund rfl rfl<|WL.gund rfl rfl<|WL.gund rfl rfl ?_
  refine WL.gund rfl rfl<|WL.gund rfl rfl<|WL.gund rfl rfl<|WL.gund rfl rfl<|WL.gund rfl rfl<|WL.gund rfl rfl<|WL.gund rfl rfl<|WL.gund rfl rfl<|WL.gund rfl rfl<|Gn j<|Pf j ?_
  exact We ⟨(ob z),ag,⟨az,lr,S⟩⟩
 intro us bh ⟨bi,a1,S⟩
 have ⟨aq,ac⟩:=U2 a1 aq ac
 refine A<|We ?_
 rcases condE h with ⟨ay,h⟩ | ⟨ay,h⟩
 ·refine CT ay ?_
  cases h
 refine CF ay<|Wk<|Ws<|Wg<|M<|M ?_
 refine WL.w (R.loadBN (i:=0) (vs:=[(int d.1.fMinor),(int d.1.fStatus),(str d.1.fReason),ap,(str d.1.fBody)]) S rfl rfl lay24 rfl rfl) ?_
 obtain ⟨⟨x,am,an,av,ao⟩,a6,h⟩:=bindE h
 refine callK rfl (zFr hw (hG) S aq ac a6 ?_)
 intro ad bj af ah ai a2 a7 a8 a9 ba bk S
 replace S:St t H0 _ a2 [ad,.box ae 56 [(str []),(str [])],.box ak 56 [(str []),(str aj)],.box u 54 [(str c.fName),(int c.fBytes),(int c.fVariants),(int c.fTables),(boo c.fStrict),(boo c.fRefuse),(ptr q 0),(int 0),(.pointer none)],.box q 136 [(int c.fBytes),(int c.fVariants),(int c.fTables),(int (wr (0+(wr (am - an))))),af,(mapv r)],.mp r (encm (fun v=>v) [(ab,(agg [ah,ai]))])]:=(S.pk [0,2,3,4,5,6])
 refine W.store (i:=1) [(str x),(str [])] S rfl rfl rfl lay56 rfl rfl (Nat.le_of_ble_eq_true rfl) rfl ?_
 intro bn S
 refine A<|We ?_
 refine WP.ret (In.two rfl (Res.cellB (i:=1) (cs:=[(str x),(str [])]) S rfl rfl lay56 rfl rfl) rfl ?_)
 cases oi h
 exact hK ad ae af ah ai a2 ((a0.trans a1).trans a7) a8 a9 ba _ S
theorem zE2 {j:World} {u:Hp} (hw:Holds j u) (hG:Tryz.Gl j) {c:GConfig} {ac:Str} {ad:Str} {ae:Str} {af:Int} {ah:Int} {ai:(List Str)} {k:GTable} {l:Nat} {aj:Nat} {o:Ent} {ak:Nat} {d:Nat} {p:Value} {q:Nat} {r:Value} {t:Value} {f:Hp} {w:World} (S:St j u w f [.box aj 56 [(str ae),(str [])],o,.box ak 56 [(str []),(str ac)],.box l 54 [(str c.fName),(int c.fBytes),(int c.fVariants),(int c.fTables),(boo c.fStrict),(boo c.fRefuse),(ptr d 0),(int 0),(.pointer none)],.box d 136 [(int c.fBytes),(int c.fVariants),(int c.fTables),(int (wr (0+(wr (af - ah))))),p,(mapv q)],.mp q (encm (fun v=>v) [(ad,(agg [r,t]))])]) (x:MR (α:=Str) f o 9 p ai) (z:Sl f r k.fAxes) (aa:Sl f t k.fEntries) (h:zCd=some ()) {K:Value→World→Prop}
  (hK:∀ (Hz:Hp),f.le Hz→MR (α:=Str) Hz o 9 p ai→Sl Hz r k.fAxes→Sl Hz t k.fEntries→∀ w',St j u w' Hz [.box aj 56 [(str ae),(str [])],o,.box ak 56 [(str []),(str ac)],.box l 54 [(str c.fName),(int c.fBytes),(int c.fVariants),(int c.fTables),(boo c.fStrict),(boo c.fRefuse),(ptr d 0),(int (wr (0+(if 1099511627776<5 then 1099511627776 else 5)))),(.pointer none)],.box d 136 [(int c.fBytes),(int c.fVariants),(int c.fTables),(int (wr (0+(wr (af - ah))))),p,(mapv q)],.mp q (encm (fun v=>v) [(ad,(agg [r,t]))])]→K (int 0) w') :
  CallK Tryz.prog 15 [(ptr l 0),(int 5)] w K:=by
 unfold zCd at h
 refine zAi (N':=26) Tryz.func15 rfl rfl kr rfl<|Ws<|Wg<|A<|We<|Ws<|Wb<|Ws<|Wg<|M<|W.inl (args:=[(ptr l 0)]) rfl (N':=12) Tryz.func38 rfl rfl kr rfl<|Ws ?_
 refine Wg<|A<|We<|Ws<|Wg<|M ?_
 refine WL.w (v:=boo true) (R.ofEq (R.neqPN rfl rfl Tryz.underlying34) rfl)<|M<|Gy rfl<|M<|Gy rfl<|Nn ?_
 refine Gy rfl<|Fb<|Gy rfl ?_
 refine Lo 3 S<|Gy rfl ?_
 refine WL.w (v:=boo true) (R.ofEq (R.neqPN rfl rfl Tryz.underlying51) rfl)<|Pt rfl<|A<|We ?_
 refine WP.ret (In.one rfl rfl ?_)
 refine WL.w (v:=boo false) (R.ofEq (R.not rfl) rfl)<|A<|We<|WP.condF (b:=false) rfl rfl<|Ws<|Wg<|M ?_
 refine WL.w (v:=boo false) (R.ofEq (R.lss rfl rfl) rfl)<|A<|We<|WP.condF (b:=false) rfl rfl<|Wk ?_
 refine Ws<|WP.quietTail 14 S kr kr<|QM<|QNn<|QFb ?_
 refine QB 3 (int 0)<|QM<|QM<|QNn<|QFb ?_
 refine QB 3 (int 0) ?_
 refine WQ.val (v:=int 1099511627776) (fun _ _=>(R.ofEq (R.sub rfl rfl) rfl)) ?_
 refine QNi<|QLg<|QNn<|QFb<|WQ.nil ?_
 intro am al ab S
 have x:=MR.mono x ab
 have ⟨z,aa⟩:=U2 ab z aa
 refine W.store (i:=3) [(str c.fName),(int c.fBytes),(int c.fVariants),(int c.fTables),(boo c.fStrict),(boo c.fRefuse),(ptr d 0),(int (wr (0+(if 1099511627776<5 then 1099511627776 else 5)))),(.pointer none)] S rfl rfl rfl lay2 rfl rfl (Nat.le_of_ble_eq_true rfl) rfl ?_
 intro an S
 refine We<|Ws<|Wg<|A<|We ?_
 refine WP.ret (In.one rfl rfl ?_)
 cases oi h
 exact hK al ab x z aa _ S
theorem zEs {p:World} {H0:Hp} (hw:Holds p H0) (hG:Tryz.Gl p) {d:GConfig} {af:Str} {q:Str} {ah:Str} {ai:Int} {aj:Int} {ak:(List Str)} {r:GTable} {c:(GRequest×GURI×Unit)} {al:Str} {o:Nat} {am:Nat} {an:Nat} {ao:Nat} {t:Value} {ap:Nat} {aq:Nat} {u:Ent} {ar:Nat} {au:Nat} {x:Value} {z:Nat} {f:Value} {j:Value} {k:Hp} {w:World} (S:St p H0 w k [.box am 62 [(.slice none 0 0),(.slice none 0 0)],.box an 96 [(str c.2.1.fHost),(int c.2.1.fPort),(str c.2.1.fPath),(str c.2.1.fQuery),(boo c.2.1.fHasQuery)],.box ao 94 [(str c.1.fMethod),(str c.1.fTarget),(int c.1.fMinor),t,(str c.1.fBody)],.box ap 56 [(str []),(str [])],.box aq 56 [(str ah),(str [])],u,.box ar 56 [(str []),(str af)],.box au 54 [(str d.fName),(int d.fBytes),(int d.fVariants),(int d.fTables),(boo d.fStrict),(boo d.fRefuse),(ptr o 0),(int (wr (0+(if 1099511627776<5 then 1099511627776 else 5)))),(.pointer none)],.box o 136 [(int d.fBytes),(int d.fVariants),(int d.fTables),(int (wr (0+(wr (ai - aj))))),x,(mapv z)],.mp z (encm (fun v=>v) [(q,(agg [f,j]))])]) (aw:Sl k t c.1.fFields) (ax:MR (α:=Str) k u 9 x ak) (ab:Sl k f r.fAxes) (ac:Sl k j r.fEntries) (h:zCe q al=some ()) {K:Value→World→Prop}
  (hK:∀ (ad:Nat) (ae:Nat) (Hz:Hp),k.le Hz→Sl Hz f r.fAxes→Sl Hz j r.fEntries→Sl Hz t c.1.fFields→MR (α:=Str) Hz u 9 x ak→∀ w',St p H0 w' Hz [.box ad 62 [f,j],.box ae 62 [f,j],.box am 62 [(.slice none 0 0),(.slice none 0 0)],.box an 96 [(str c.2.1.fHost),(int c.2.1.fPort),(str c.2.1.fPath),(str c.2.1.fQuery),(boo c.2.1.fHasQuery)],.box ao 94 [(str c.1.fMethod),(str c.1.fTarget),(int c.1.fMinor),t,(str c.1.fBody)],.box ap 56 [(str []),(str [])],.box aq 56 [(str ah),(str [])],u,.box ar 56 [(str []),(str af)],.box au 54 [(str d.fName),(int d.fBytes),(int d.fVariants),(int d.fTables),(boo d.fStrict),(boo d.fRefuse),(ptr o 0),(int (wr (0+(if 1099511627776<5 then 1099511627776 else 5)))),(.pointer none)],.box o 136 [(int d.fBytes),(int d.fVariants),(int d.fTables),(int (wr (0+(wr (ai - aj))))),x,(mapv z)],.mp z (encm (fun v=>v) [(q,(agg [f,j]))])]→K (.tuple ⟨[(agg [f,j]),(boo true)]⟩) w') :
  CallK Tryz.prog 80 [(ptr o 0),(str al)] w K:=by
 unfold zCe at h
 refine zAi (N':=23) Tryz.func80 rfl rfl kr rfl<|Ws<|Wg ?_
 refine W.alloc [(.slice none 0 0),(.slice none 0 0)] S zer62 ?_
 intro ae ay S
 refine A<|We<|Ws<|Ws<|Wg<|M<|W.inl (args:=[(ptr o 0)]) rfl (N':=12) Tryz.func78 rfl rfl kr rfl<|Ws<|Wg<|A<|We<|Ws ?_
 refine Wg<|M ?_
 refine WL.w (v:=boo true) (R.ofEq (R.neqPN rfl rfl Tryz.underlying51) rfl)<|M<|Gy rfl<|M<|Gy rfl<|Nn<|Gy rfl<|Fb<|Gy rfl ?_
 refine Lo 9 S ?_
 refine Gy rfl ?_
 refine WL.w (v:=boo true) (R.ofEq (R.neqMN rfl rfl Tryz.underlying134) rfl)<|Pt rfl<|A<|We ?_
 refine WP.ret (In.one rfl rfl ?_)
 refine WL.w (v:=boo false) (R.ofEq (R.not rfl) rfl)<|We<|WP.condF (b:=false) rfl rfl<|Wk<|Ws<|Wg<|M<|Nn<|Fb ?_
 refine Lo 9 S<|M ?_
 rcases condE h with ⟨av,h⟩ | ⟨av,h⟩
 ·refine WL.w (v:=.tuple ⟨[(agg [f,j]),(boo true)]⟩) (R.lookX (i:=10) (m:=[(q,(agg [f,j]))]) S rfl rfl rfl Tryz.underlying134 Tryz.underlying9 mz62 (zIT av))<|M ?_
  refine Ex ?_
  refine Ex ?_
  refine W.alloc [(.slice none 0 0),(.slice none 0 0)] S zer62 ?_
  intro ad az S
  refine W.store (i:=0) [f,j] S rfl rfl rfl lay62 rfl (AllOne.all (l:=[f,j]) (.cons (Sl.oneC ab) (.cons (Sl.oneC ac) .nil))) (Nat.le_of_ble_eq_true rfl) rfl ?_
  intro a0 S
  refine A<|We<|Ws<|Wg ?_
  refine WL.w (R.loadBN (i:=0) (vs:=[f,j]) S rfl rfl lay62 rfl rfl)<|M ?_
  refine W.store (i:=1) [f,j] S rfl rfl rfl lay62 rfl (AllOne.all (l:=[f,j]) (.cons (Sl.oneC ab) (.cons (Sl.oneC ac) .nil))) (Nat.le_of_ble_eq_true rfl) rfl ?_
  intro a1 S
  refine A<|We ?_
  refine WP.ret (In.two rfl (Res.cellB (i:=1) (cs:=[f,j]) S rfl rfl lay62 rfl rfl) rfl ?_)
  cases oi h
  exact hK ad ae k lr ab ac aw ax _ S
 cases h
theorem zEu {x:World} {H0:Hp} (hw:Holds x H0) (hG:Tryz.Gl x) {c:GConfig} {aj:Str} {af:Str} {ak:Str} {al:Int} {am:Int} {ax:(List Str)} {r:GTable} {b:(GRequest×GURI×Unit)} {ay:Str} {o:Nat} {an:Nat} {ao:Nat} {z:Value} {ap:Nat} {aq:Nat} {aa:Ent} {ar:Nat} {au:Nat} {ab:Value} {t:Nat} {d:Value} {f:Value} {u:Hp} {w:World} (S:St x H0 w u [.box an 96 [(str b.2.1.fHost),(int b.2.1.fPort),(str b.2.1.fPath),(str b.2.1.fQuery),(boo b.2.1.fHasQuery)],.box ao 94 [(str b.1.fMethod),(str b.1.fTarget),(int b.1.fMinor),z,(str b.1.fBody)],.box ap 56 [(str []),(str [])],.box aq 56 [(str ak),(str [])],aa,.box ar 56 [(str []),(str aj)],.box au 54 [(str c.fName),(int c.fBytes),(int c.fVariants),(int c.fTables),(boo c.fStrict),(boo c.fRefuse),(ptr o 0),(int (wr (0+(if 1099511627776<5 then 1099511627776 else 5)))),(.pointer none)],.box o 136 [(int c.fBytes),(int c.fVariants),(int c.fTables),(int (wr (0+(wr (al - am))))),ab,(mapv t)],.mp t (encm (fun v=>v) [(af,(agg [d,f]))])]) (ac:Sl u z b.1.fFields) (ad:MR (α:=Str) u aa 9 ab ax) (p:Sl u d r.fAxes) (q:Sl u f r.fEntries) {ah:GTable} (h:zCT af r ay=some ah) {K:Value→World→Prop}
  (hK:∀ (j:Value) (k:Value) (av:Nat) (ai:Nat) (Hz:Hp),u.le Hz→Sl Hz j ah.fAxes→Sl Hz k ah.fEntries→Sl Hz d r.fAxes→Sl Hz f r.fEntries→Sl Hz z b.1.fFields→MR (α:=Str) Hz aa 9 ab ax→∀ w',St x H0 w' Hz [.box av 62 [d,f],.box ai 62 [j,k],.box an 96 [(str b.2.1.fHost),(int b.2.1.fPort),(str b.2.1.fPath),(str b.2.1.fQuery),(boo b.2.1.fHasQuery)],.box ao 94 [(str b.1.fMethod),(str b.1.fTarget),(int b.1.fMinor),z,(str b.1.fBody)],.box ap 56 [(str []),(str [])],.box aq 56 [(str ak),(str [])],aa,.box ar 56 [(str []),(str aj)],.box au 54 [(str c.fName),(int c.fBytes),(int c.fVariants),(int c.fTables),(boo c.fStrict),(boo c.fRefuse),(ptr o 0),(int (wr (0+(if 1099511627776<5 then 1099511627776 else 5)))),(.pointer none)],.box o 136 [(int c.fBytes),(int c.fVariants),(int c.fTables),(int (wr (0+(wr (al - am))))),ab,(mapv t)],.mp t (encm (fun v=>v) [(af,(agg [d,f]))])]→K (.tuple ⟨[(agg [j,k]),(boo true)]⟩) w') :
  CallK Tryz.prog 45 [(ptr o 0),(str ay)] w K:=by
 unfold zCT at h
 refine zAi (N':=17) Tryz.func45 rfl rfl kr rfl<|Ws<|Wg ?_
 refine W.alloc [(.slice none 0 0),(.slice none 0 0)] S zer62 ?_
 intro ai a6 S
 refine A<|We<|Ws<|Wg<|M<|M<|B h fun _ a1 h=>callK rfl (zEs hw (hG) S ac ad p q a1 ?_)
 intro a7 a8 a2 a3 p q ac ad a9 S
 replace S:St x H0 _ a2 [.box ai 62 [(.slice none 0 0),(.slice none 0 0)],.box an 96 [(str b.2.1.fHost),(int b.2.1.fPort),(str b.2.1.fPath),(str b.2.1.fQuery),(boo b.2.1.fHasQuery)],.box ao 94 [(str b.1.fMethod),(str b.1.fTarget),(int b.1.fMinor),z,(str b.1.fBody)],.box ap 56 [(str []),(str [])],.box aq 56 [(str ak),(str [])],aa,.box ar 56 [(str []),(str aj)],.box au 54 [(str c.fName),(int c.fBytes),(int c.fVariants),(int c.fTables),(boo c.fStrict),(boo c.fRefuse),(ptr o 0),(int (wr (0+(if 1099511627776<5 then 1099511627776 else 5)))),(.pointer none)],.box o 136 [(int c.fBytes),(int c.fVariants),(int c.fTables),(int (wr (0+(wr (al - am))))),ab,(mapv t)],.mp t (encm (fun v=>v) [(af,(agg [d,f]))])]:=(S.pk [2,3,4,5,6,7,8,9,10,11])
 refine M ?_
 refine Ex ?_
 refine Ex ?_
 refine W.alloc [(.slice none 0 0),(.slice none 0 0)] S zer62 ?_
 intro av ba S
 refine W.store (i:=0) [d,f] S rfl rfl rfl lay62 rfl (AllOne.all (l:=[d,f]) (.cons (Sl.oneC p) (.cons (Sl.oneC q) .nil))) (Nat.le_of_ble_eq_true rfl) rfl ?_
 intro bb S
 refine A<|We<|Ws<|Wg ?_
 refine WL.w (R.loadBN (i:=0) (vs:=[d,f]) S rfl rfl lay62 rfl rfl)<|B h fun ah a4 h=>W.call S rfl (zEg S.holds (hG.post S.post) r p q a4) ?_
 rintro bc bd a5 aw S ⟨j,k,rfl,az,a0⟩
 have ⟨p,q,ac⟩:=U3 aw p q ac
 have ad:=MR.mono ad aw
 refine M ?_
 refine W.store (i:=1) [j,k] S rfl rfl rfl lay62 rfl (AllOne.all (l:=[j,k]) (.cons (Sl.oneC az) (.cons (Sl.oneC a0) .nil))) (Nat.le_of_ble_eq_true rfl) rfl ?_
 intro be S
 refine A<|We ?_
 refine WP.ret (In.two rfl (Res.cellB (i:=1) (cs:=[j,k]) S rfl rfl lay62 rfl rfl) rfl ?_)
 obtain rfl:=oi h
 exact hK j k av ai a5 (a3.trans aw) az a0 p q ac ad _ S
theorem zE9 {t:World} {H0:Hp} (hw:Holds t H0) (hG:Tryz.Gl t) {d:GConfig} {ah:Str} {u:Str} {ai:Str} {aj:Int} {ak:Int} {ay:(List Str)} {ad:GTable} {c:(GRequest×GURI×Unit)} {al:Str} {ae:GTable} {p:GDecision} {o:Nat} {a0:Nat} {q:Value} {am:Nat} {an:Nat} {x:Value} {z:Value} {a1:Nat} {ao:Nat} {ap:Nat} {aq:Nat} {aa:Ent} {ar:Nat} {au:Nat} {ab:Value} {r:Nat} {f:Value} {j:Value} {k:Hp} {w:World} (S:St t H0 w k [.box a0 111 [(str c.1.fMethod),(str c.1.fTarget),(int c.1.fMinor),q,(str c.1.fBody),(str c.2.1.fHost),(int c.2.1.fPort),(str c.2.1.fPath),(str c.2.1.fQuery),(boo c.2.1.fHasQuery),(str al),(int (wr (0+(if 1099511627776<5 then 1099511627776 else 5)))),(boo false),(int 0),(.slice none 0 0),(.slice none 0 0),(.slice none 0 0),(str []),(.slice none 0 0),(str []),(int 0),(int 0)],.box am 108 [(int p.fKind),(int p.fIndex)],.box an 62 [x,z],.box a1 96 [(str c.2.1.fHost),(int c.2.1.fPort),(str c.2.1.fPath),(str c.2.1.fQuery),(boo c.2.1.fHasQuery)],.box ao 94 [(str c.1.fMethod),(str c.1.fTarget),(int c.1.fMinor),q,(str c.1.fBody)],.box ap 56 [(str []),(str [])],.box aq 56 [(str ai),(str [])],aa,.box ar 56 [(str []),(str ah)],.box au 54 [(str d.fName),(int d.fBytes),(int d.fVariants),(int d.fTables),(boo d.fStrict),(boo d.fRefuse),(ptr o 0),(int (wr (0+(if 1099511627776<5 then 1099511627776 else 5)))),(.pointer none)],.box o 136 [(int d.fBytes),(int d.fVariants),(int d.fTables),(int (wr (0+(wr (aj - ak))))),ab,(mapv r)],.mp r (encm (fun v=>v) [(u,(agg [f,j]))])]) (a2:Sl k q c.1.fFields) (a3:Sl k x ae.fAxes) (a4:Sl k z ae.fEntries) (a5:MR (α:=Str) k aa 9 ab ay) (av:Sl k f ad.fAxes) (aw:Sl k j ad.fEntries) (h:zCa u al=some ()) {K:Value→World→Prop}
  (hK:∀ (ax:Nat) (af:Nat) (Hz:Hp),k.le Hz→Sl Hz f ad.fAxes→Sl Hz j ad.fEntries→Sl Hz x ae.fAxes→Sl Hz z ae.fEntries→Sl Hz q c.1.fFields→MR (α:=Str) Hz aa 9 ab ay→∀ w',St t H0 w' Hz [.box ax 62 [f,j],.box af 62 [f,j],.box am 108 [(int p.fKind),(int p.fIndex)],.box an 62 [x,z],.box ao 94 [(str c.1.fMethod),(str c.1.fTarget),(int c.1.fMinor),q,(str c.1.fBody)],.box ap 56 [(str []),(str [])],.box aq 56 [(str ai),(str [])],aa,.box ar 56 [(str []),(str ah)],.box au 54 [(str d.fName),(int d.fBytes),(int d.fVariants),(int d.fTables),(boo d.fStrict),(boo d.fRefuse),(ptr o 0),(int (wr (0+(if 1099511627776<5 then 1099511627776 else 5)))),(.pointer none)],.box o 136 [(int d.fBytes),(int d.fVariants),(int d.fTables),(int (wr (0+(wr (aj - ak))))),ab,(mapv r)],.mp r (encm (fun v=>v) [(u,(agg [f,j]))])]→K (.tuple ⟨[(agg [f,j]),(boo true)]⟩) w') :
  CallK Tryz.prog 80 [(ptr o 0),(str al)] w K:=by
 unfold zCa at h
 refine zAi (N':=23) Tryz.func80 rfl rfl kr rfl<|Ws<|Wg ?_
 refine W.alloc [(.slice none 0 0),(.slice none 0 0)] S zer62 ?_
 intro af a6 S
 refine A<|We<|Ws<|Ws<|Wg<|M<|W.inl (args:=[(ptr o 0)]) rfl (N':=12) Tryz.func78 rfl rfl kr rfl<|Ws<|Wg<|A<|We<|Ws ?_
 refine Wg<|M ?_
 refine WL.w (v:=boo true) (R.ofEq (R.neqPN rfl rfl Tryz.underlying51) rfl)<|M<|Gy rfl<|M<|Gy rfl<|Nn<|Gy rfl<|Fb<|Gy rfl ?_
 refine Lo 11 S ?_
 refine Gy rfl ?_
 refine WL.w (v:=boo true) (R.ofEq (R.neqMN rfl rfl Tryz.underlying134) rfl)<|Pt rfl<|A<|We ?_
 refine WP.ret (In.one rfl rfl ?_)
 replace S:St t H0 _ k [.box af 62 [(.slice none 0 0),(.slice none 0 0)],.box am 108 [(int p.fKind),(int p.fIndex)],.box an 62 [x,z],.box ao 94 [(str c.1.fMethod),(str c.1.fTarget),(int c.1.fMinor),q,(str c.1.fBody)],.box ap 56 [(str []),(str [])],.box aq 56 [(str ai),(str [])],aa,.box ar 56 [(str []),(str ah)],.box au 54 [(str d.fName),(int d.fBytes),(int d.fVariants),(int d.fTables),(boo d.fStrict),(boo d.fRefuse),(ptr o 0),(int (wr (0+(if 1099511627776<5 then 1099511627776 else 5)))),(.pointer none)],.box o 136 [(int d.fBytes),(int d.fVariants),(int d.fTables),(int (wr (0+(wr (aj - ak))))),ab,(mapv r)],.mp r (encm (fun v=>v) [(u,(agg [f,j]))])]:=(S.pk [0,2,3,5,6,7,8,9,10,11,12])
 refine WL.w (v:=boo false) (R.ofEq (R.not rfl) rfl)<|We<|WP.condF (b:=false) rfl rfl<|Wk<|Ws<|Wg<|M<|Nn<|Fb ?_
 refine Lo 9 S<|M ?_
 rcases condE h with ⟨az,h⟩ | ⟨az,h⟩
 ·refine WL.w (v:=.tuple ⟨[(agg [f,j]),(boo true)]⟩) (R.lookX (i:=10) (m:=[(u,(agg [f,j]))]) S rfl rfl rfl Tryz.underlying134 Tryz.underlying9 mz62 (zIT az))<|M ?_
  refine Ex ?_
  refine Ex ?_
  refine W.alloc [(.slice none 0 0),(.slice none 0 0)] S zer62 ?_
  intro ax a7 S
  refine W.store (i:=0) [f,j] S rfl rfl rfl lay62 rfl (AllOne.all (l:=[f,j]) (.cons (Sl.oneC av) (.cons (Sl.oneC aw) .nil))) (Nat.le_of_ble_eq_true rfl) rfl ?_
  intro a8 S
  refine A<|We<|Ws<|Wg ?_
  refine WL.w (R.loadBN (i:=0) (vs:=[f,j]) S rfl rfl lay62 rfl rfl)<|M ?_
  refine W.store (i:=1) [f,j] S rfl rfl rfl lay62 rfl (AllOne.all (l:=[f,j]) (.cons (Sl.oneC av) (.cons (Sl.oneC aw) .nil))) (Nat.le_of_ble_eq_true rfl) rfl ?_
  intro a9 S
  refine A<|We ?_
  refine WP.ret (In.two rfl (Res.cellB (i:=1) (cs:=[f,j]) S rfl rfl lay62 rfl rfl) rfl ?_)
  cases oi h
  exact hK ax af k lr av aw a3 a4 a2 a5 _ S
 cases h
end Go.Proofs

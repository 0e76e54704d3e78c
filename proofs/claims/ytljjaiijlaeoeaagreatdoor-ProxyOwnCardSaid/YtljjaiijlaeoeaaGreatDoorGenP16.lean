/- A part. -/
import Derived.Test.YtljjaiijlaeoeaaGreatDoorEng38
import Derived.Test.YtljjaiijlaeoeaaGreatDoorEng36
import Derived.Test.YtljjaiijlaeoeaaGreatDoorGenP15
namespace Go.Proofs
set_option maxHeartbeats 4000000
set_option maxRecDepth 10000
open Go.Eng Go.Eng.Pure
set_option linter.unusedVariables false
theorem zFn {w0:World} {H0:Hp} (hw:Holds w0 H0) (hG:Tryz.Gl w0) {c:GConfig} {a7:Str} {k:(GRequest×GURI×Unit)} {am:Str} {j:(GResponse×Int×Int)} {cg:(List GField)} {d:(GEntry×(List GAxis))} {p:Nat} {ah:Value} {ai:Value} {aj:Value} {ak:Value} {a3:Value} {bu:Nat} {bv:Nat} {bi:Value} {a8:Nat} {bw:Nat} {ap:Value} {bx:Nat} {a9:Nat} {ba:Nat} {bz:Nat} {bj:Value} {bb:Nat} {ae:Nat} {z:Hp} {w:World} (S:St w0 H0 w z [.box bu 92 [ah,ai,aj,(str d.1.fReason),ak,(str d.1.fBody),(int d.1.fRequested),(int d.1.fReceived)],.box bv 24 [(int 1),(int j.1.fStatus),(str j.1.fReason),bi,(str j.1.fBody)],.box a8 56 [(str []),(str [])],.box bw 24 [(int j.1.fMinor),(int j.1.fStatus),(str j.1.fReason),ap,(str j.1.fBody)],.box bx 24 [(int j.1.fMinor),(int j.1.fStatus),(str j.1.fReason),ap,(str j.1.fBody)],.box a9 56 [(str []),(str [])],.box ba 56 [(str []),(str a7)],.box bz 111 [(str k.1.fMethod),(str k.1.fTarget),(int k.1.fMinor),bj,(str k.1.fBody),(str k.2.1.fHost),(int k.2.1.fPort),(str k.2.1.fPath),(str k.2.1.fQuery),(boo k.2.1.fHasQuery),(str am),(int 0),(boo false),(int 0),(.slice none 0 0),(.slice none 0 0),(.slice none 0 0),(str []),(.slice none 0 0),(str []),(int 0),(int 0)],.box bb 54 [(str c.fName),(int c.fBytes),(int c.fVariants),(int c.fTables),(boo c.fStrict),(boo c.fRefuse),(ptr p 0),(int 0),(.pointer none)],.box p 136 [(int c.fBytes),(int c.fVariants),(int c.fTables),(int 0),(.slice none 0 0),(mapv ae)],.mp ae []]) (q:Sl z ah d.1.fKeys) (r:Sl z ai d.1.fVary) (t:Sl z aj d.1.fSnapshot) (u:Sl z ak d.1.fFields) (x:Sl z a3 d.2) (ab:Sl z bi cg) (ac:Sl z ap j.1.fFields) (ad:Sl z bj k.1.fFields) {a4:Int} {a5:Int} {bk:(List Str)} {aq:GTable} (h:zCv c am d=some (a4,a5,bk,aq)) {K:Value→World→Prop}
  (hK:∀ (bc:Ent) (a6:Value) (an:Value) (ao:Value) (Hz:Hp),z.le Hz→MR (α:=Str) Hz bc 9 a6 bk→Sl Hz an aq.fAxes→Sl Hz ao aq.fEntries→∀ w',St w0 H0 w' Hz [bc,.box a8 56 [(str []),(str [])],.box a9 56 [(str []),(str [])],.box ba 56 [(str []),(str a7)],.box bb 54 [(str c.fName),(int c.fBytes),(int c.fVariants),(int c.fTables),(boo c.fStrict),(boo c.fRefuse),(ptr p 0),(int 0),(.pointer none)],.box p 136 [(int c.fBytes),(int c.fVariants),(int c.fTables),(int (wr (0+(wr (a4 - a5))))),a6,(mapv ae)],.mp ae (encm (fun v=>v) [(am,(agg [an,ao]))])]→K (boo true) w') :
  CallK Tryz.prog 128 [(ptr p 0),(str am),(agg [ah,ai,aj,(str d.1.fReason),ak,(str d.1.fBody),(int d.1.fRequested),(int d.1.fReceived)]),a3] w K:=by
 unfold zCv at h
 refine zAi (N':=59) Tryz.func128 rfl rfl kr rfl<|Ws<|Wg ?_
 refine W.box [ah,ai,aj,(str d.1.fReason),ak,(str d.1.fBody),(int d.1.fRequested),(int d.1.fReceived)] S rfl rfl ?_
 intro b0 d9 S
 refine A<|We<|Ws<|Ws<|B h fun bn bs h=>B h fun bo aw h=>WP.cut (fun f w=>∃ (al:Hp),f 0=(ptr p 0)∧f 1=(str am)∧f 3=a3∧f 6=(ptr b0 0)∧f 31=(boo bo)∧Sl al a3 d.2∧Sl al ah d.1.fKeys∧Sl al ai d.1.fVary∧Sl al aj d.1.fSnapshot∧Sl al ak d.1.fFields∧Sl al bi cg∧Sl al ap j.1.fFields∧Sl al bj k.1.fFields∧Hp.le z al∧St w0 H0 w al [.box b0 92 [ah,ai,aj,(str d.1.fReason),ak,(str d.1.fBody),(int d.1.fRequested),(int d.1.fReceived)],.box bu 92 [ah,ai,aj,(str d.1.fReason),ak,(str d.1.fBody),(int d.1.fRequested),(int d.1.fReceived)],.box bv 24 [(int 1),(int j.1.fStatus),(str j.1.fReason),bi,(str j.1.fBody)],.box a8 56 [(str []),(str [])],.box bw 24 [(int j.1.fMinor),(int j.1.fStatus),(str j.1.fReason),ap,(str j.1.fBody)],.box bx 24 [(int j.1.fMinor),(int j.1.fStatus),(str j.1.fReason),ap,(str j.1.fBody)],.box a9 56 [(str []),(str [])],.box ba 56 [(str []),(str a7)],.box bz 111 [(str k.1.fMethod),(str k.1.fTarget),(int k.1.fMinor),bj,(str k.1.fBody),(str k.2.1.fHost),(int k.2.1.fPort),(str k.2.1.fPath),(str k.2.1.fQuery),(boo k.2.1.fHasQuery),(str am),(int 0),(boo false),(int 0),(.slice none 0 0),(.slice none 0 0),(.slice none 0 0),(str []),(.slice none 0 0),(str []),(int 0),(int 0)],.box bb 54 [(str c.fName),(int c.fBytes),(int c.fVariants),(int c.fTables),(boo c.fStrict),(boo c.fRefuse),(ptr p 0),(int 0),(.pointer none)],.box p 136 [(int c.fBytes),(int c.fVariants),(int c.fTables),(int 0),(.slice none 0 0),(mapv ae)],.mp ae []]) ?_ ?_
 ·refine WP.drawC (Cl w0 H0 z [.box b0 92 [ah,ai,aj,(str d.1.fReason),ak,(str d.1.fBody),(int d.1.fRequested),(int d.1.fReceived)],.box bu 92 [ah,ai,aj,(str d.1.fReason),ak,(str d.1.fBody),(int d.1.fRequested),(int d.1.fReceived)],.box bv 24 [(int 1),(int j.1.fStatus),(str j.1.fReason),bi,(str j.1.fBody)],.box a8 56 [(str []),(str [])],.box bw 24 [(int j.1.fMinor),(int j.1.fStatus),(str j.1.fReason),ap,(str j.1.fBody)],.box bx 24 [(int j.1.fMinor),(int j.1.fStatus),(str j.1.fReason),ap,(str j.1.fBody)],.box a9 56 [(str []),(str [])],.box ba 56 [(str []),(str a7)],.box bz 111 [(str k.1.fMethod),(str k.1.fTarget),(int k.1.fMinor),bj,(str k.1.fBody),(str k.2.1.fHost),(int k.2.1.fPort),(str k.2.1.fPath),(str k.2.1.fQuery),(boo k.2.1.fHasQuery),(str am),(int 0),(boo false),(int 0),(.slice none 0 0),(.slice none 0 0),(.slice none 0 0),(str []),(.slice none 0 0),(str []),(int 0),(int 0)],.box bb 54 [(str c.fName),(int c.fBytes),(int c.fVariants),(int c.fTables),(boo c.fStrict),(boo c.fRefuse),(ptr p 0),(int 0),(.pointer none)]]) kr 22 rfl (bm 22 0) rfl ?_
  have S:=S.drew
  rcases boolE (decide (c.fBytes<bn)) with o | o
  ·replace aw:=condT aw o
   refine Ct 0 22 1 rfl (fun _ _=>(R.mv (v:=ptr p 0) rfl)) ?_
   refine Cx [1] ⟨z,lr,(S.pk [0,1,2,3,4,5,6,7,8,9])⟩ (all1 ?_)
   refine Nx 22 3 rfl<|W.inl (args:=[(ptr p 0)]) rfl (N':=12) Tryz.func78 rfl rfl kr rfl<|Ws<|Wg<|A<|We<|Ws<|Wg<|M ?_
   refine WL.w (v:=boo true) (R.ofEq (R.neqPN rfl rfl Tryz.underlying51) rfl)<|M<|Gy rfl ?_
   refine M<|Gy rfl<|Nn<|Gy rfl<|Fb<|Gy rfl ?_
   refine Lo 10 S<|Gy rfl ?_
   refine WL.w (v:=boo true) (R.ofEq (R.neqMN rfl rfl Tryz.underlying134) rfl)<|Pt rfl<|A<|We ?_
   refine WP.ret (In.one rfl rfl ?_)
   refine We ?_
   refine WC.take (i:=2) (v:=boo false) (bm 22 7) rfl kr kr kr rfl (fun _ _=>(R.ofEq (R.not rfl) rfl)) ?_
   refine Ct 3 22 15 rfl (fun _ _=>(R.mv (v:=boo false) rfl)) ?_
   refine WC.takeY (i:=4) (bm 22 31) rfl rfl rfl rfl kr kr kr rfl (fun w hw=>by obtain ⟨_,hq,S⟩:=hw; exact (R.loadBN (i:=0) (vs:=[ah,ai,aj,(str d.1.fReason),ak,(str d.1.fBody),(int d.1.fRequested),(int d.1.fReceived)]) S rfl rfl lay92 rfl rfl)) ?_
   refine WC.takeY (i:=6) (bm 22 95) rfl rfl rfl rfl kr kr kr rfl (fun _ _=>(R.mv (v:=ptr p 0) rfl)) ?_
   refine WC.takeY (i:=7) (bm 22 223) rfl rfl rfl rfl kr kr kr rfl (fun _ _=>(R.nilCheckB rfl)) ?_
   refine WC.takeY (i:=8) (bm 22 479) rfl rfl rfl rfl kr kr kr rfl (fun _ _=>(R.fieldB rfl zGx)) ?_
   refine Cx [5,9] ⟨z,lr,(S.pk [0,1,2,3,4,5,6,7,8,9])⟩ (allS ?_ (all1 ?_))
   ·refine Nx 22 511 rfl<|Gy rfl<|W.call S rfl (zAs S.holds (hG.post S.post) d.1 q r t u bs) ?_
    rintro ea eb ch b5 S rfl
    have ⟨x,q,r,t,u,ab,ac,ad⟩:=U8 b5 x q r t u ab ac ad
    refine We ?_
    refine Cx [9] ⟨ch,b5,(S.pk [0,1,2,3,4,5,6,7,8,9])⟩ (all1 ?_)
    refine Nx 22 1023 rfl<|Gy rfl ?_
    refine Lo 10 S<|We ?_
    refine WC.takeY (i:=10) (bm 22 2047) rfl rfl rfl rfl kr kr kr rfl (fun _ _=>(R.gtr rfl rfl)) ?_
    refine Ct 11 22 4095 rfl (fun _ _=>(R.pickF (b:=false) rfl rfl rfl)) ?_
    refine Ct 12 22 8191 rfl (fun _ _=>(R.mv (v:=boo (decide (c.fBytes<bn))) rfl))<|WC.takeN (i:=13) (bm 22 16383) rfl rfl rfl o kr kr kr rfl<|WC.takeN (i:=14) (bm 22 32767) rfl rfl rfl o kr kr kr rfl<|WC.takeN (i:=15) (bm 22 65535) rfl rfl rfl o kr kr kr rfl<|WC.takeN (i:=16) (bm 22 131071) rfl rfl rfl o kr kr kr rfl<|WC.takeU (i:=17) (bm 22 262143) rfl rfl rfl kr kr kr rfl ?_
    refine WC.takeU (i:=18) (bm 22 524287) rfl rfl rfl kr kr kr rfl<|WC.takeU (i:=19) (bm 22 1048575) rfl rfl rfl kr kr kr rfl<|WC.takeN (i:=20) (bm 22 2097151) rfl rfl rfl o kr kr kr rfl ?_
    refine WC.take (i:=21) (v:=boo bo) (bm 22 4194303) rfl kr kr kr rfl (fun _ _=>(R.ofEq (R.pickT rfl o rfl) (ob aw)))<|WC.done ⟨ch,b5,(S.pk [0,1,2,3,4,5,6,7,8,9])⟩ kr ?_
    exact ⟨ch,rfl,rfl,rfl,rfl,rfl,x,q,r,t,u,ab,ac,ad,b5,S⟩
   refine Nx 22 991 rfl<|Gy rfl ?_
   refine Lo 10 S<|We ?_
   refine Cx [5] ⟨z,lr,(S.pk [0,1,2,3,4,5,6,7,8,9])⟩ (all1 ?_)
   refine Nx 22 1023 rfl<|Gy rfl<|W.call S rfl (zAs S.holds (hG.post S.post) d.1 q r t u bs) ?_
   rintro ec ed c4 ci S rfl
   have ⟨x,q,r,t,u,ab,ac,ad⟩:=U8 ci x q r t u ab ac ad
   refine We ?_
   refine WC.takeY (i:=10) (bm 22 2047) rfl rfl rfl rfl kr kr kr rfl (fun _ _=>(R.gtr rfl rfl)) ?_
   refine Ct 11 22 4095 rfl (fun _ _=>(R.pickF (b:=false) rfl rfl rfl)) ?_
   refine Ct 12 22 8191 rfl (fun _ _=>(R.mv (v:=boo (decide (c.fBytes<bn))) rfl))<|WC.takeN (i:=13) (bm 22 16383) rfl rfl rfl o kr kr kr rfl<|WC.takeN (i:=14) (bm 22 32767) rfl rfl rfl o kr kr kr rfl<|WC.takeN (i:=15) (bm 22 65535) rfl rfl rfl o kr kr kr rfl<|WC.takeN (i:=16) (bm 22 131071) rfl rfl rfl o kr kr kr rfl<|WC.takeU (i:=17) (bm 22 262143) rfl rfl rfl kr kr kr rfl<|WC.takeU (i:=18) (bm 22 524287) rfl rfl rfl kr kr kr rfl<|WC.takeU (i:=19) (bm 22 1048575) rfl rfl rfl kr kr kr rfl<|WC.takeN (i:=20) (bm 22 2097151) rfl rfl rfl o kr kr kr rfl ?_
   refine WC.take (i:=21) (v:=boo bo) (bm 22 4194303) rfl kr kr kr rfl (fun _ _=>(R.ofEq (R.pickT rfl o rfl) (ob aw)))<|WC.done ⟨c4,ci,(S.pk [0,1,2,3,4,5,6,7,8,9])⟩ kr ?_
   exact ⟨c4,rfl,rfl,rfl,rfl,rfl,x,q,r,t,u,ab,ac,ad,ci,S⟩
  replace aw:=condF aw o
  refine B aw fun b6 bd aw=>?_
  rcases boolE (decide (0<(d.2.length:Int))) with af | af
  ·replace bd:=condT bd af
   refine B bd fun ee c5 bd=>?_
   refine Ct 0 22 1 rfl (fun _ _=>(R.mv (v:=ptr p 0) rfl)) ?_
   refine Cx [1] ⟨z,lr,(S.pk [0,1,2,3,4,5,6,7,8,9])⟩ (all1 ?_)
   refine Nx 22 3 rfl<|W.inl (args:=[(ptr p 0)]) rfl (N':=12) Tryz.func78 rfl rfl kr rfl<|Ws<|Wg<|A<|We<|Ws<|Wg<|M ?_
   refine WL.w (v:=boo true) (R.ofEq (R.neqPN rfl rfl Tryz.underlying51) rfl)<|M<|Gy rfl ?_
   refine M<|Gy rfl<|Nn<|Gy rfl<|Fb<|Gy rfl ?_
   refine Lo 10 S<|Gy rfl ?_
   refine WL.w (v:=boo true) (R.ofEq (R.neqMN rfl rfl Tryz.underlying134) rfl)<|Pt rfl<|A<|We ?_
   refine WP.ret (In.one rfl rfl ?_)
   refine We ?_
   refine WC.take (i:=2) (v:=boo false) (bm 22 7) rfl kr kr kr rfl (fun _ _=>(R.ofEq (R.not rfl) rfl)) ?_
   refine Ct 3 22 15 rfl (fun _ _=>(R.mv (v:=boo false) rfl)) ?_
   refine WC.takeY (i:=4) (bm 22 31) rfl rfl rfl rfl kr kr kr rfl (fun w hw=>by obtain ⟨_,hq,S⟩:=hw; exact (R.loadBN (i:=0) (vs:=[ah,ai,aj,(str d.1.fReason),ak,(str d.1.fBody),(int d.1.fRequested),(int d.1.fReceived)]) S rfl rfl lay92 rfl rfl)) ?_
   refine WC.takeY (i:=6) (bm 22 95) rfl rfl rfl rfl kr kr kr rfl (fun _ _=>(R.mv (v:=ptr p 0) rfl)) ?_
   refine WC.takeY (i:=7) (bm 22 223) rfl rfl rfl rfl kr kr kr rfl (fun _ _=>(R.nilCheckB rfl)) ?_
   refine WC.takeY (i:=8) (bm 22 479) rfl rfl rfl rfl kr kr kr rfl (fun _ _=>(R.fieldB rfl zGx)) ?_
   refine Cx [5,9] ⟨z,lr,(S.pk [0,1,2,3,4,5,6,7,8,9])⟩ (allS ?_ (all1 ?_))
   ·refine Nx 22 511 rfl<|Gy rfl<|W.call S rfl (zAs S.holds (hG.post S.post) d.1 q r t u bs) ?_
    rintro ef eg cj b1 S rfl
    have ⟨x,q,r,t,u,ab,ac,ad⟩:=U8 b1 x q r t u ab ac ad
    refine We ?_
    refine Cx [9] ⟨cj,b1,(S.pk [0,1,2,3,4,5,6,7,8,9])⟩ (all1 ?_)
    refine Nx 22 1023 rfl<|Gy rfl ?_
    refine Lo 10 S<|We ?_
    refine WC.takeY (i:=10) (bm 22 2047) rfl rfl rfl rfl kr kr kr rfl (fun _ _=>(R.gtr rfl rfl)) ?_
    refine Ct 11 22 4095 rfl (fun _ _=>(R.pickF (b:=false) rfl rfl rfl)) ?_
    refine Ct 12 22 8191 rfl (fun _ _=>(R.mv (v:=boo (decide (c.fBytes<bn))) rfl)) ?_
    refine WC.takeY (i:=13) (bm 22 16383) rfl rfl rfl o kr kr kr rfl (fun _ _=>(R.mv (v:=a3) rfl)) ?_
    refine WC.takeY (i:=14) (bm 22 32767) rfl rfl rfl o kr kr kr rfl (fun _ _=>(R.lenL (α:=GAxis) (xs:=d.2) (H:=cj) x rfl Tryz.underlying59)) ?_
    refine WC.takeY (i:=15) (bm 22 65535) rfl rfl rfl o kr kr kr rfl (fun _ _=>(R.gtr rfl rfl)) ?_
    refine WC.takeY (i:=16) (bm 22 131071) rfl rfl rfl o kr kr kr rfl (fun _ _=>(R.mv (v:=boo (decide (0<(d.2.length:Int)))) rfl)) ?_
    refine WC.takeY (i:=17) (bm 22 262143) rfl rfl rfl af kr kr kr rfl (fun _ _=>(R.mv (v:=a3) rfl)) ?_
    refine Cx [18] ⟨cj,b1,(S.pk [0,1,2,3,4,5,6,7,8,9])⟩ (all1 ?_)
    refine Nx 22 524287 rfl<|Gy af<|W.call S rfl (zBy S.holds (hG.post S.post) d.2 x c5) ?_
    rintro eh ei c6 ck S rfl
    have ⟨x,q,r,t,u,ab,ac,ad⟩:=U8 ck x q r t u ab ac ad
    refine We ?_
    refine WC.takeY (i:=19) (bm 22 1048575) rfl rfl rfl af kr kr kr rfl (fun _ _=>(R.not rfl)) ?_
    refine WC.takeY (i:=20) (v:=boo b6) (bm 22 2097151) rfl rfl rfl o kr kr kr rfl (fun _ _=>(R.ofEq (R.pickT rfl af rfl) (ob bd))) ?_
    refine WC.take (i:=21) (v:=boo bo) (bm 22 4194303) rfl kr kr kr rfl (fun _ _=>(R.ofEq (R.pickF rfl o rfl) (ob aw)))<|WC.done ⟨c6,(b1.trans ck),(S.pk [0,1,2,3,4,5,6,7,8,9])⟩ kr ?_
    exact ⟨c6,rfl,rfl,rfl,rfl,rfl,x,q,r,t,u,ab,ac,ad,(b1.trans ck),S⟩
   refine Nx 22 991 rfl<|Gy rfl ?_
   refine Lo 10 S<|We ?_
   refine Cx [5] ⟨z,lr,(S.pk [0,1,2,3,4,5,6,7,8,9])⟩ (all1 ?_)
   refine Nx 22 1023 rfl<|Gy rfl<|W.call S rfl (zAs S.holds (hG.post S.post) d.1 q r t u bs) ?_
   rintro ej ek c7 b7 S rfl
   have ⟨x,q,r,t,u,ab,ac,ad⟩:=U8 b7 x q r t u ab ac ad
   refine We ?_
   refine WC.takeY (i:=10) (bm 22 2047) rfl rfl rfl rfl kr kr kr rfl (fun _ _=>(R.gtr rfl rfl)) ?_
   refine Ct 11 22 4095 rfl (fun _ _=>(R.pickF (b:=false) rfl rfl rfl)) ?_
   refine Ct 12 22 8191 rfl (fun _ _=>(R.mv (v:=boo (decide (c.fBytes<bn))) rfl)) ?_
   refine WC.takeY (i:=13) (bm 22 16383) rfl rfl rfl o kr kr kr rfl (fun _ _=>(R.mv (v:=a3) rfl)) ?_
   refine WC.takeY (i:=14) (bm 22 32767) rfl rfl rfl o kr kr kr rfl (fun _ _=>(R.lenL (α:=GAxis) (xs:=d.2) (H:=c7) x rfl Tryz.underlying59)) ?_
   refine WC.takeY (i:=15) (bm 22 65535) rfl rfl rfl o kr kr kr rfl (fun _ _=>(R.gtr rfl rfl)) ?_
   refine WC.takeY (i:=16) (bm 22 131071) rfl rfl rfl o kr kr kr rfl (fun _ _=>(R.mv (v:=boo (decide (0<(d.2.length:Int)))) rfl)) ?_
   refine WC.takeY (i:=17) (bm 22 262143) rfl rfl rfl af kr kr kr rfl (fun _ _=>(R.mv (v:=a3) rfl)) ?_
   refine Cx [18] ⟨c7,b7,(S.pk [0,1,2,3,4,5,6,7,8,9])⟩ (all1 ?_)
   refine Nx 22 524287 rfl<|Gy af<|W.call S rfl (zBy S.holds (hG.post S.post) d.2 x c5) ?_
   rintro el em c8 cl S rfl
   have ⟨x,q,r,t,u,ab,ac,ad⟩:=U8 cl x q r t u ab ac ad
   refine We ?_
   refine WC.takeY (i:=19) (bm 22 1048575) rfl rfl rfl af kr kr kr rfl (fun _ _=>(R.not rfl)) ?_
   refine WC.takeY (i:=20) (v:=boo b6) (bm 22 2097151) rfl rfl rfl o kr kr kr rfl (fun _ _=>(R.ofEq (R.pickT rfl af rfl) (ob bd))) ?_
   refine WC.take (i:=21) (v:=boo bo) (bm 22 4194303) rfl kr kr kr rfl (fun _ _=>(R.ofEq (R.pickF rfl o rfl) (ob aw)))<|WC.done ⟨c8,(b7.trans cl),(S.pk [0,1,2,3,4,5,6,7,8,9])⟩ kr ?_
   exact ⟨c8,rfl,rfl,rfl,rfl,rfl,x,q,r,t,u,ab,ac,ad,(b7.trans cl),S⟩
  replace bd:=condF bd af
  refine Ct 0 22 1 rfl (fun _ _=>(R.mv (v:=ptr p 0) rfl)) ?_
  refine Cx [1] ⟨z,lr,(S.pk [0,1,2,3,4,5,6,7,8,9])⟩ (all1 ?_)
  refine Nx 22 3 rfl<|W.inl (args:=[(ptr p 0)]) rfl (N':=12) Tryz.func78 rfl rfl kr rfl<|Ws<|Wg<|A<|We<|Ws<|Wg<|M ?_
  refine WL.w (v:=boo true) (R.ofEq (R.neqPN rfl rfl Tryz.underlying51) rfl)<|M<|Gy rfl ?_
  refine M<|Gy rfl<|Nn<|Gy rfl<|Fb<|Gy rfl ?_
  refine Lo 10 S<|Gy rfl ?_
  refine WL.w (v:=boo true) (R.ofEq (R.neqMN rfl rfl Tryz.underlying134) rfl)<|Pt rfl<|A<|We ?_
  refine WP.ret (In.one rfl rfl ?_)
  refine We ?_
  refine WC.take (i:=2) (v:=boo false) (bm 22 7) rfl kr kr kr rfl (fun _ _=>(R.ofEq (R.not rfl) rfl)) ?_
  refine Ct 3 22 15 rfl (fun _ _=>(R.mv (v:=boo false) rfl)) ?_
  refine WC.takeY (i:=4) (bm 22 31) rfl rfl rfl rfl kr kr kr rfl (fun w hw=>by obtain ⟨_,hq,S⟩:=hw; exact (R.loadBN (i:=0) (vs:=[ah,ai,aj,(str d.1.fReason),ak,(str d.1.fBody),(int d.1.fRequested),(int d.1.fReceived)]) S rfl rfl lay92 rfl rfl)) ?_
  refine WC.takeY (i:=6) (bm 22 95) rfl rfl rfl rfl kr kr kr rfl (fun _ _=>(R.mv (v:=ptr p 0) rfl)) ?_
  refine WC.takeY (i:=7) (bm 22 223) rfl rfl rfl rfl kr kr kr rfl (fun _ _=>(R.nilCheckB rfl)) ?_
  refine WC.takeY (i:=8) (bm 22 479) rfl rfl rfl rfl kr kr kr rfl (fun _ _=>(R.fieldB rfl zGx)) ?_
  refine Cx [5,9] ⟨z,lr,(S.pk [0,1,2,3,4,5,6,7,8,9])⟩ (allS ?_ (all1 ?_))
  ·refine Nx 22 511 rfl<|Gy rfl<|W.call S rfl (zAs S.holds (hG.post S.post) d.1 q r t u bs) ?_
   rintro en eo b8 b9 S rfl
   have ⟨x,q,r,t,u,ab,ac,ad⟩:=U8 b9 x q r t u ab ac ad
   refine We ?_
   refine Cx [9] ⟨b8,b9,(S.pk [0,1,2,3,4,5,6,7,8,9])⟩ (all1 ?_)
   refine Nx 22 1023 rfl<|Gy rfl ?_
   refine Lo 10 S<|We ?_
   refine WC.takeY (i:=10) (bm 22 2047) rfl rfl rfl rfl kr kr kr rfl (fun _ _=>(R.gtr rfl rfl)) ?_
   refine Ct 11 22 4095 rfl (fun _ _=>(R.pickF (b:=false) rfl rfl rfl)) ?_
   refine Ct 12 22 8191 rfl (fun _ _=>(R.mv (v:=boo (decide (c.fBytes<bn))) rfl)) ?_
   refine WC.takeY (i:=13) (bm 22 16383) rfl rfl rfl o kr kr kr rfl (fun _ _=>(R.mv (v:=a3) rfl)) ?_
   refine WC.takeY (i:=14) (bm 22 32767) rfl rfl rfl o kr kr kr rfl (fun _ _=>(R.lenL (α:=GAxis) (xs:=d.2) (H:=b8) x rfl Tryz.underlying59)) ?_
   refine WC.takeY (i:=15) (bm 22 65535) rfl rfl rfl o kr kr kr rfl (fun _ _=>(R.gtr rfl rfl)) ?_
   refine WC.takeY (i:=16) (bm 22 131071) rfl rfl rfl o kr kr kr rfl (fun _ _=>(R.mv (v:=boo (decide (0<(d.2.length:Int)))) rfl))<|WC.takeN (i:=17) (bm 22 262143) rfl rfl rfl af kr kr kr rfl ?_
   refine WC.takeN (i:=18) (bm 22 524287) rfl rfl rfl af kr kr kr rfl<|WC.takeN (i:=19) (bm 22 1048575) rfl rfl rfl af kr kr kr rfl ?_
   refine WC.takeY (i:=20) (v:=boo b6) (bm 22 2097151) rfl rfl rfl o kr kr kr rfl (fun _ _=>(R.ofEq (R.pickF rfl af rfl) (ob bd))) ?_
   refine WC.take (i:=21) (v:=boo bo) (bm 22 4194303) rfl kr kr kr rfl (fun _ _=>(R.ofEq (R.pickF rfl o rfl) (ob aw)))<|WC.done ⟨b8,b9,(S.pk [0,1,2,3,4,5,6,7,8,9])⟩ kr ?_
   exact ⟨b8,rfl,rfl,rfl,rfl,rfl,x,q,r,t,u,ab,ac,ad,b9,S⟩
  refine Nx 22 991 rfl<|Gy rfl ?_
  refine Lo 10 S<|We ?_
  refine Cx [5] ⟨z,lr,(S.pk [0,1,2,3,4,5,6,7,8,9])⟩ (all1 ?_)
  refine Nx 22 1023 rfl<|Gy rfl<|W.call S rfl (zAs S.holds (hG.post S.post) d.1 q r t u bs) ?_
  rintro ep eq cm cn S rfl
  have ⟨x,q,r,t,u,ab,ac,ad⟩:=U8 cn x q r t u ab ac ad
  refine We ?_
  refine WC.takeY (i:=10) (bm 22 2047) rfl rfl rfl rfl kr kr kr rfl (fun _ _=>(R.gtr rfl rfl)) ?_
  refine Ct 11 22 4095 rfl (fun _ _=>(R.pickF (b:=false) rfl rfl rfl)) ?_
  refine Ct 12 22 8191 rfl (fun _ _=>(R.mv (v:=boo (decide (c.fBytes<bn))) rfl)) ?_
  refine WC.takeY (i:=13) (bm 22 16383) rfl rfl rfl o kr kr kr rfl (fun _ _=>(R.mv (v:=a3) rfl)) ?_
  refine WC.takeY (i:=14) (bm 22 32767) rfl rfl rfl o kr kr kr rfl (fun _ _=>(R.lenL (α:=GAxis) (xs:=d.2) (H:=cm) x rfl Tryz.underlying59)) ?_
  refine WC.takeY (i:=15) (bm 22 65535) rfl rfl rfl o kr kr kr rfl (fun _ _=>(R.gtr rfl rfl)) ?_
  refine WC.takeY (i:=16) (bm 22 131071) rfl rfl rfl o kr kr kr rfl (fun _ _=>(R.mv (v:=boo (decide (0<(d.2.length:Int)))) rfl))<|WC.takeN (i:=17) (bm 22 262143) rfl rfl rfl af kr kr kr rfl<|WC.takeN (i:=18) (bm 22 524287) rfl rfl rfl af kr kr kr rfl<|WC.takeN (i:=19) (bm 22 1048575) rfl rfl rfl af kr kr kr rfl ?_
  refine WC.takeY (i:=20) (v:=boo b6) (bm 22 2097151) rfl rfl rfl o kr kr kr rfl (fun _ _=>(R.ofEq (R.pickF rfl af rfl) (ob bd))) ?_
  refine WC.take (i:=21) (v:=boo bo) (bm 22 4194303) rfl kr kr kr rfl (fun _ _=>(R.ofEq (R.pickF rfl o rfl) (ob aw)))<|WC.done ⟨cm,cn,(S.pk [0,1,2,3,4,5,6,7,8,9])⟩ kr ?_
  exact ⟨cm,rfl,rfl,rfl,rfl,rfl,x,q,r,t,u,ab,ac,ad,cn,S⟩
 rintro f w ⟨al,b2,ca,dp,dq,c9,bp,ax,ay,az,a0,bf,bg,bh,co,S⟩
 rcases condE h with ⟨cp,h⟩ | ⟨cp,h⟩
 ·refine WP.condT c9 cp ?_
  cases h
 refine WP.condF c9 cp<|Wk<|Ws<|B h fun aq cq h=>WP.cut (fun f w=>∃ (a1:Hp) (cb:Nat) (an:Value) (ao:Value),f 0=(ptr p 0)∧f 1=(str am)∧f 9=(ptr cb 0)∧Sl a1 an aq.fAxes∧Sl a1 ao aq.fEntries∧Sl a1 ah d.1.fKeys∧Sl a1 ai d.1.fVary∧Sl a1 aj d.1.fSnapshot∧Sl a1 ak d.1.fFields∧Sl a1 bi cg∧Sl a1 ap j.1.fFields∧Sl a1 bj k.1.fFields∧Hp.le z a1∧St w0 H0 w a1 [.box cb 62 [an,ao],.box b0 92 [ah,ai,aj,(str d.1.fReason),ak,(str d.1.fBody),(int d.1.fRequested),(int d.1.fReceived)],.box bu 92 [ah,ai,aj,(str d.1.fReason),ak,(str d.1.fBody),(int d.1.fRequested),(int d.1.fReceived)],.box bv 24 [(int 1),(int j.1.fStatus),(str j.1.fReason),bi,(str j.1.fBody)],.box a8 56 [(str []),(str [])],.box bw 24 [(int j.1.fMinor),(int j.1.fStatus),(str j.1.fReason),ap,(str j.1.fBody)],.box bx 24 [(int j.1.fMinor),(int j.1.fStatus),(str j.1.fReason),ap,(str j.1.fBody)],.box a9 56 [(str []),(str [])],.box ba 56 [(str []),(str a7)],.box bz 111 [(str k.1.fMethod),(str k.1.fTarget),(int k.1.fMinor),bj,(str k.1.fBody),(str k.2.1.fHost),(int k.2.1.fPort),(str k.2.1.fPath),(str k.2.1.fQuery),(boo k.2.1.fHasQuery),(str am),(int 0),(boo false),(int 0),(.slice none 0 0),(.slice none 0 0),(.slice none 0 0),(str []),(.slice none 0 0),(str []),(int 0),(int 0)],.box bb 54 [(str c.fName),(int c.fBytes),(int c.fVariants),(int c.fTables),(boo c.fStrict),(boo c.fRefuse),(ptr p 0),(int 0),(.pointer none)],.box p 136 [(int c.fBytes),(int c.fVariants),(int c.fTables),(int 0),(.slice none 0 0),(mapv ae)],.mp ae []]) ?_ ?_
 ·refine WP.drawC (Cl w0 H0 al [.box b0 92 [ah,ai,aj,(str d.1.fReason),ak,(str d.1.fBody),(int d.1.fRequested),(int d.1.fReceived)],.box bu 92 [ah,ai,aj,(str d.1.fReason),ak,(str d.1.fBody),(int d.1.fRequested),(int d.1.fReceived)],.box bv 24 [(int 1),(int j.1.fStatus),(str j.1.fReason),bi,(str j.1.fBody)],.box a8 56 [(str []),(str [])],.box bw 24 [(int j.1.fMinor),(int j.1.fStatus),(str j.1.fReason),ap,(str j.1.fBody)],.box bx 24 [(int j.1.fMinor),(int j.1.fStatus),(str j.1.fReason),ap,(str j.1.fBody)],.box a9 56 [(str []),(str [])],.box ba 56 [(str []),(str a7)],.box bz 111 [(str k.1.fMethod),(str k.1.fTarget),(int k.1.fMinor),bj,(str k.1.fBody),(str k.2.1.fHost),(int k.2.1.fPort),(str k.2.1.fPath),(str k.2.1.fQuery),(boo k.2.1.fHasQuery),(str am),(int 0),(boo false),(int 0),(.slice none 0 0),(.slice none 0 0),(.slice none 0 0),(str []),(.slice none 0 0),(str []),(int 0),(int 0)],.box bb 54 [(str c.fName),(int c.fBytes),(int c.fVariants),(int c.fTables),(boo c.fStrict),(boo c.fRefuse),(ptr p 0),(int 0),(.pointer none)],.box p 136 [(int c.fBytes),(int c.fVariants),(int c.fTables),(int 0),(.slice none 0 0),(mapv ae)],.mp ae []]) kr 15 rfl (bm 15 0) rfl ?_
  have S:=S.drew
  refine Ct 0 15 1 rfl (fun _ _=>(R.mv (v:=ptr p 0) b2)) ?_
  refine Ct 1 15 3 rfl (fun _ _=>(R.nilCheckB rfl)) ?_
  refine Ct 2 15 7 rfl (fun _ _=>(R.fieldB rfl zH2)) ?_
  refine Ct 3 15 15 rfl (fun w hw=>by obtain ⟨_,hq,S⟩:=hw; exact (R.loadB (i:=10) (v:=mapv ae) S rfl rfl zJG rfl)) ?_
  refine Ct 4 15 31 rfl (fun _ _=>(R.mv (v:=str am) ca)) ?_
  refine Ct 6 15 95 rfl (fun w hw=>by obtain ⟨_,hq,S⟩:=hw; exact (R.loadBN (i:=0) (vs:=[ah,ai,aj,(str d.1.fReason),ak,(str d.1.fBody),(int d.1.fRequested),(int d.1.fReceived)]) S dq rfl lay92 rfl rfl)) ?_
  refine Ct 7 15 223 rfl (fun _ _=>(R.mv (v:=a3) dp)) ?_
  refine Ct 8 15 479 rfl (fun _ _=>(R.mv (v:=ptr p 0) b2)) ?_
  refine Ct 9 15 991 rfl (fun _ _=>(R.nilCheckB rfl)) ?_
  refine Ct 10 15 2015 rfl (fun _ _=>(R.fieldB rfl zH1)) ?_
  refine Ct 11 15 4063 rfl (fun w hw=>by obtain ⟨_,hq,S⟩:=hw; exact (R.loadB (i:=10) (v:=int c.fVariants) S rfl rfl lay3 rfl)) ?_
  refine Cx [5,13] ⟨al,lr,S⟩ (allS ?_ (all1 ?_))
  ·refine Nx 15 4095 rfl ?_
   refine WL.w (v:=agg [(.slice none 0 0),(.slice none 0 0)]) (R.lookX1 (i:=11) (m:=[]) S rfl rfl rfl Tryz.underlying134 Tryz.underlying9 mz62 zHT)<|We ?_
   refine Cx [12,13] ⟨al,lr,S⟩ (allS ?_ (all1 ?_))
   ·refine Nx 15 8191 rfl<|W.call S rfl (zD6 S.holds (hG.post S.post) (⟨([]:List GAxis),([]:List GEntry)⟩:GTable) d.1 d.2 c.fVariants Sl.nil Sl.nil ax ay az a0 bp cq) ?_
    rintro er es cc b3 S ⟨cr,cs,rfl,da,db⟩
    have ⟨bp,ax,ay,az,a0,bf,bg,bh⟩:=U8 b3 bp ax ay az a0 bf bg bh
    refine We ?_
    refine Cx [13] ⟨cc,b3,S⟩ (all1 ?_)
    refine Nx 15 16383 rfl ?_
    refine W.alloc [(.slice none 0 0),(.slice none 0 0)] S zer62 ?_
    intro dr et S
    refine We ?_
    refine Cx [14] ⟨cc,b3,(S.pk [1,2,3,4,5,6,7,8,9,10,11,12])⟩ (all1 ?_)
    refine Nx 15 32767 rfl ?_
    refine W.store (i:=0) [cr,cs] S rfl rfl rfl lay62 rfl (AllOne.all (l:=[cr,cs]) (.cons (Sl.oneC da) (.cons (Sl.oneC db) .nil))) (Nat.le_of_ble_eq_true rfl) rfl ?_
    intro eu S
    refine We<|WC.done ⟨cc,b3,(S.pk [1,2,3,4,5,6,7,8,9,10,11,12])⟩ kr ?_
    exact ⟨cc,dr,cr,cs,b2,ca,rfl,da,db,ax,ay,az,a0,bf,bg,bh,(co.trans b3),S⟩
   refine Nx 15 12287 rfl ?_
   refine W.alloc [(.slice none 0 0),(.slice none 0 0)] S zer62 ?_
   intro ds ew S
   refine We ?_
   refine Cx [12] ⟨al,lr,(S.pk [1,2,3,4,5,6,7,8,9,10,11,12])⟩ (all1 ?_)
   refine Nx 15 16383 rfl<|W.call S rfl (zD6 S.holds (hG.post S.post) (⟨([]:List GAxis),([]:List GEntry)⟩:GTable) d.1 d.2 c.fVariants Sl.nil Sl.nil ax ay az a0 bp cq) ?_
   rintro ex ey ct cd S ⟨cu,cv,rfl,dc,dd⟩
   have ⟨bp,ax,ay,az,a0,bf,bg,bh⟩:=U8 cd bp ax ay az a0 bf bg bh
   refine We ?_
   refine Cx [14] ⟨ct,cd,(S.pk [1,2,3,4,5,6,7,8,9,10,11,12])⟩ (all1 ?_)
   refine Nx 15 32767 rfl ?_
   refine W.store (i:=0) [cu,cv] S rfl rfl rfl lay62 rfl (AllOne.all (l:=[cu,cv]) (.cons (Sl.oneC dc) (.cons (Sl.oneC dd) .nil))) (Nat.le_of_ble_eq_true rfl) rfl ?_
   intro ez S
   refine We<|WC.done ⟨ct,cd,(S.pk [1,2,3,4,5,6,7,8,9,10,11,12])⟩ kr ?_
   exact ⟨ct,ds,cu,cv,b2,ca,rfl,dc,dd,ax,ay,az,a0,bf,bg,bh,(co.trans cd),S⟩
  refine Nx 15 12255 rfl ?_
  refine W.alloc [(.slice none 0 0),(.slice none 0 0)] S zer62 ?_
  intro dt e0 S
  refine We ?_
  refine Cx [5] ⟨al,lr,(S.pk [1,2,3,4,5,6,7,8,9,10,11,12])⟩ (all1 ?_)
  refine Nx 15 12287 rfl ?_
  refine WL.w (v:=agg [(.slice none 0 0),(.slice none 0 0)]) (R.lookX1 (i:=12) (m:=[]) S rfl rfl rfl Tryz.underlying134 Tryz.underlying9 mz62 zHT)<|We ?_
  refine Cx [12] ⟨al,lr,(S.pk [1,2,3,4,5,6,7,8,9,10,11,12])⟩ (all1 ?_)
  refine Nx 15 16383 rfl<|W.call S rfl (zD6 S.holds (hG.post S.post) (⟨([]:List GAxis),([]:List GEntry)⟩:GTable) d.1 d.2 c.fVariants Sl.nil Sl.nil ax ay az a0 bp cq) ?_
  rintro e1 e2 cw ce S ⟨cx,cy,rfl,de,df⟩
  have ⟨ax,ay,az,a0,bf,bg,bh⟩:=U7 ce ax ay az a0 bf bg bh
  refine We ?_
  refine Cx [14] ⟨cw,ce,(S.pk [1,2,3,4,5,6,7,8,9,10,11,12])⟩ (all1 ?_)
  refine Nx 15 32767 rfl ?_
  refine W.store (i:=0) [cx,cy] S rfl rfl rfl lay62 rfl (AllOne.all (l:=[cx,cy]) (.cons (Sl.oneC de) (.cons (Sl.oneC df) .nil))) (Nat.le_of_ble_eq_true rfl) rfl ?_
  intro e3 S
  refine We<|WC.done ⟨cw,ce,(S.pk [1,2,3,4,5,6,7,8,9,10,11,12])⟩ kr ?_
  exact ⟨cw,dt,cx,cy,b2,ca,rfl,de,df,ax,ay,az,a0,bf,bg,bh,(co.trans ce),S⟩
 rintro f w ⟨a1,cb,an,ao,cz,c0,dg,ar,au,dh,di,dj,dk,dl,dm,dn,du,S⟩
 refine Ws<|Wg<|M' cz<|M' c0 ?_
 refine WL.w (R.loadBN (i:=0) (vs:=[an,ao]) S dg rfl lay62 rfl rfl) ?_
 obtain ⟨⟨a4,a5⟩,dv,h⟩:=bindE h
 refine callK rfl (zFE hw (hG) S ar au dh di dj dk dl dm dn dv ?_)
 intro e4 e5 dw dx ar au dh di dj dk dl dm dn e6 S
 replace S:St w0 H0 _ dw [.box cb 62 [an,ao],.box a8 56 [(str []),(str [])],.box a9 56 [(str []),(str [])],.box ba 56 [(str []),(str a7)],.box bb 54 [(str c.fName),(int c.fBytes),(int c.fVariants),(int c.fTables),(boo c.fStrict),(boo c.fRefuse),(ptr p 0),(int 0),(.pointer none)],.box p 136 [(int c.fBytes),(int c.fVariants),(int c.fTables),(int (wr (0+(wr (a4 - a5))))),(.slice none 0 0),(mapv ae)],.mp ae (encm (fun v=>v) [(am,(agg [an,ao]))])]:=(S.pk [2,6,9,10,12,13,14])
 refine We<|Ws<|Wg<|M' cz<|M' c0<|B h fun bk dy h=>callK rfl (zE7 hw (hG) S ar au dy ?_)
 intro bc a6 dz d0 e7 d1 be ar au e8 S
 refine We<|Ws<|Wg<|M' cz<|M' c0<|Fb' dg ?_
 refine Lo 1 S<|Nq d1<|Lh<|B h fun _ c1 h=>W.inl (args:=[(ptr p 0),(str am),(int (wr ((aq.fEntries.length:Int) - 1)))]) rfl (N':=62) Tryz.func188 rfl rfl kr rfl (WP.inC (fun f w=>∃ (bq:Hp),MR (α:=Str) bq bc 9 a6 bk∧Sl bq an aq.fAxes∧Sl bq ao aq.fEntries∧Hp.le z bq∧St w0 H0 w bq [bc,.box a8 56 [(str []),(str [])],.box a9 56 [(str []),(str [])],.box ba 56 [(str []),(str a7)],.box bb 54 [(str c.fName),(int c.fBytes),(int c.fVariants),(int c.fTables),(boo c.fStrict),(boo c.fRefuse),(ptr p 0),(int 0),(.pointer none)],.box p 136 [(int c.fBytes),(int c.fVariants),(int c.fTables),(int (wr (0+(wr (a4 - a5))))),a6,(mapv ae)],.mp ae (encm (fun v=>v) [(am,(agg [an,ao]))])]) ?_ ?_)
 ·refine B c1 fun d2 d3 c1=>WP.cut (fun f w=>∃ (br:Hp),MR (α:=Str) br bc 9 a6 bk∧Sl br an aq.fAxes∧Sl br ao aq.fEntries∧Hp.le z br∧St w0 H0 w br [bc,.box a8 56 [(str []),(str [])],.box a9 56 [(str []),(str [])],.box ba 56 [(str []),(str a7)],.box bb 54 [(str c.fName),(int c.fBytes),(int c.fVariants),(int c.fTables),(boo c.fStrict),(boo c.fRefuse),(ptr p 0),(int 0),(.pointer none)],.box p 136 [(int c.fBytes),(int c.fVariants),(int c.fTables),(int (wr (0+(wr (a4 - a5))))),a6,(mapv ae)],.mp ae (encm (fun v=>v) [(am,(agg [an,ao]))])]) ?_ ?_
  ·refine Wb ?_
   refine WP.loopM (zEY c a4 a5 bk) (fun s f w=>match s with | _=>∃ (bt:Hp),f 0=(ptr p 0)∧MR (α:=Str) bt bc 9 a6 bk∧Sl bt an aq.fAxes∧Sl bt ao aq.fEntries∧Hp.le z bt∧St w0 H0 w bt [bc,.box a8 56 [(str []),(str [])],.box a9 56 [(str []),(str [])],.box ba 56 [(str []),(str a7)],.box bb 54 [(str c.fName),(int c.fBytes),(int c.fVariants),(int c.fTables),(boo c.fStrict),(boo c.fRefuse),(ptr p 0),(int 0),(.pointer none)],.box p 136 [(int c.fBytes),(int c.fVariants),(int c.fTables),(int (wr (0+(wr (a4 - a5))))),a6,(mapv ae)],.mp ae (encm (fun v=>v) [(am,(agg [an,ao]))])]) () d2 (lfW d3) ?_ ?_
   ·exact ⟨dz,rfl,be,ar,au,((du.trans dx).trans d0),(S.pk [0,2,3,4,5,6,7])⟩
   intro s f w hI e9 b4 d4
   obtain ⟨bt,cf,be,ar,au,d5,S⟩:=hI
   refine Ws<|Ws<|WP.quiet S kr kr<|QM' cf<|QNn<|QFb ?_
   refine WQ.val (fun w hw=>by obtain ⟨_,hq,S⟩:=hw; exact (R.loadB (i:=5) (v:=int (wr (0+(wr (a4 - a5))))) S rfl rfl lay3 rfl))<|QM' cf<|QNn<|QFb ?_
   refine QB 5 (int c.fBytes)<|QLc ?_
   refine QM ?_
   refine WQ.grp 11 [18,19,20,21,22,23,24,25,26,27] 28 (boo ((decide (c.fBytes<(wr (0+(wr (a4 - a5))))))||(decide (c.fTables<(bk.length:Int))))) ?_ ?_
   ·rcases boolE (decide (c.fBytes<(wr (0+(wr (a4 - a5)))))) with aa | aa
    ·refine QGn aa<|QGn aa<|QGn aa<|QGn aa<|QGn aa<|QGn aa<|QGn aa<|QGn aa<|QGn aa<|QGn aa<|QPt aa ?_
     exact WQ.nil ⟨(orT aa),ag⟩
    refine QGy aa<|QM' cf<|QGy aa<|QNn<|QGy aa<|QFb<|QGy aa ?_
    refine QB 5 a6<|QGy aa ?_
    refine WQ.val (fun _ _=>(R.lenMR (α:=Str) be rfl Tryz.underlying45))<|QGy aa<|QM' cf ?_
    refine QGy aa<|QNn<|QGy aa<|QFb<|QGy aa ?_
    refine QB 5 (int c.fTables)<|QGy aa<|QLc<|QPf aa ?_
    exact WQ.nil ⟨(orF aa),ag⟩
   intro us
   refine WQ.nil ?_
   intro fa d6 c2 S
   have be:=MR.mono be c2
   have ⟨ar,au⟩:=U2 c2 ar au
   rcases condE b4 with ⟨c3,b4⟩ | ⟨c3,b4⟩
   ·refine CT c3 ?_
    cases b4
   refine CF c3<|Wx ?_
   obtain rfl:=oi b4
   obtain rfl:=d4
   exact ⟨d6,be,ar,au,(d5.trans c2),S⟩
  rintro f w ⟨br,be,ar,au,d7,S⟩
  cases oi c1
  skip
  exact ⟨.inr rfl,⟨br,be,ar,au,d7,S⟩⟩
 rintro f w ⟨bq,be,ar,au,d8,S⟩
 refine InR.zero rfl <|We<|Ws<|Wg<|A<|We ?_
 refine WP.ret (In.one rfl rfl ?_)
 cases oi h
 exact hK bc a6 an ao bq d8 be ar au _ S
end Go.Proofs

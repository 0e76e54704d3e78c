/- A part of the proof of laws of the seat: written by program over the translation. -/
import Derived.Test.YtipgfplekgdoiaaGreatDoorEng38
import Derived.Test.YtipgfplekgdoiaaGreatDoorEng32
import Derived.Test.YtipgfplekgdoiaaGreatDoorGenK23
namespace Go.Proofs
set_option maxHeartbeats 4000000
set_option maxRecDepth 10000
open Go.Eng Go.Eng.Pure
set_option linter.unusedVariables false
theorem zIM {w0:World} {o:Hp} (hw:Holds w0 o) (ao:(List GField)) (q:(List GAxis)) {bj:Value} {t:Value} (ap:Sl (α:=GField) o bj ao) (b:Sl (α:=GAxis) o t q) {r:((List (List Str))×Int)} (h:zDr ao q=some r) :
  Con Tryz.prog 68 [bj,t] w0 o (fun H' v=>∃ u1:Value,v=(.tuple ⟨[u1,(int r.2)]⟩)∧Sl (α:=(List Str)) H' u1 r.1):=by
 refine Con.mk (N:=67) Tryz.func68 rfl rfl kr rfl ?_
 have S:=St.start hw
 refine Ws<|Wg<|A<|A<|We<|Ws<|Ws<|Wg<|M<|B h fun r1 b0 h=>W.call S rfl (zCD S.holds q b b0) ?_
 rintro v2 w3 H4 bn S rfl
 have ap:=Sl.mono ap bn
 have b:=Sl.mono b bn
 refine No<|We ?_
 rcases condE h with ⟨aq,h⟩ | ⟨aq,h⟩
 ·refine CT aq<|Ws<|Wg<|A<|A<|We ?_
  obtain rfl:=oi h
  refine WP.ret (Out.two rfl S rfl rfl ?_)
  exact ⟨_,rfl,Sl.nil⟩
 refine CF aq<|Wk<|Ws<|Wg<|M<|B h fun r7 b1 h=>W.call S rfl (zDx S.holds ao [86,97,114,105,97,110,116,45,75,101,121] ap b1) ?_
 rintro v8 w9 b2 b3 S l
 have b:=Sl.mono b b3
 refine A<|We<|Ws<|Ws<|Wg<|M<|Nq l<|Le<|We ?_
 rcases condE h with ⟨au,h⟩ | ⟨au,h⟩
 ·refine CT au<|Ws<|Wg<|A<|A<|We ?_
  obtain rfl:=oi h
  refine WP.ret (Out.two rfl S rfl rfl ?_)
  exact ⟨_,rfl,Sl.nil⟩
 refine CF au<|Wk<|Ws<|Wg<|A<|We<|Ws<|Ws<|Wg<|M<|Nq l<|M ?_
 refine We ?_
 have S:=S.addNil 34 1
 refine B h fun av b4 h=>WP.cut (fun f w=>match av with | .inl u=>∃ (ae:Hp) (x:Value),f 1=t∧f 7=x∧Sl (α:=GAxis) ae t q∧Sl (α:=(List Str)) ae x u∧St w0 o w ae [.row x 34 1 u.length] | .inr _=>False) ?_ ?_
 ·refine Wb ?_
  refine WP.loopM (zBm r7) (fun s f w=>match s with | (aw,bp)=>∃ (ac:Hp) (af:Value),f 1=t∧f 7=af∧f 25=v8∧f 26=(int (r7.length:Int))∧f 27=(int bp)∧Sl (α:=GAxis) ac t q∧Sl (α:=(List Str)) ac af aw∧Sl (α:=Str) ac v8 r7∧St w0 o w ac [.row af 34 1 aw.length]) (([]:List (List Str)),0) av b4 ?_ ?_
  ·exact ⟨b2,.slice none 0 0,rfl,rfl,rfl,rfl,rfl,b,Sl.nil,l,S⟩
  intro s f w hI c4 j bq
  obtain ⟨aw,bp⟩:=s
  obtain ⟨ac,af,br,bs,bt,bu,ax,b,z,l,S⟩:=hI
  refine Ws<|Wg<|La' ax bu<|We<|Ws ?_
  rcases condE j with ⟨ay,j⟩ | ⟨ay,j⟩
  ·refine CT ay<|Wk<|Ws<|Wb<|Ws<|Wg<|B j fun b5 b6 j=>W.idx (α:=Str) l bt ax el34 b6 ?_
   rintro c5 _ b7 rfl
   refine Lq S b7<|A<|We<|Ws<|Wg<|M<|B j fun b8 b9 j=>W.call S rfl (zIQ S.holds b5 b9) ?_
   rintro c6 c7 c8 az S ⟨ca,rfl,a0⟩
   have b:=Sl.mono b az
   have z:=Sl.mono z az
   have l:=Sl.mono l az
   refine M ?_
   refine Ex ?_
   refine Ex<|A<|A<|We<|Ws<|Ws<|Wg<|M<|No<|We ?_
   rcases condE j with ⟨a1,j⟩ | ⟨a1,j⟩
   ·refine CT a1<|Ws<|Wg<|A<|A<|We ?_
    obtain rfl:=oi j
    obtain rfl:=bq
    obtain rfl:=oi h
    refine WP.ret (Out.two rfl S rfl rfl ?_)
    exact ⟨_,rfl,Sl.nil⟩
   refine CF a1<|Wk<|Wg<|M' bs<|M<|W.bslice (α:=(List Str)) [ca] ([b8.1]:List (List Str)) S el33 rfl rfl rfl (by decide) (Go.Eng.encS ⟨(by rw [Sl.cellsOne a0]; rfl),_,(by rw [Sl.cellsOne a0]),a0⟩ enc0) ?_
   intro c9 da db a2 cb S
   have b:=Sl.mono b a2
   have z:=Sl.mono z a2
   have l:=Sl.mono l a2
   refine B j fun dc cc j=>W.app (α:=(List Str)) (i:=1) S el33 rfl rfl rfl z cb cc ?_
   intro cd dd ce a3 cf S
   have b:=Sl.mono b a3
   have z:=Sl.mono z a3
   have l:=Sl.mono l a3
   refine A<|We<|Wg<|Lg' ax rfl<|M<|We ?_
   obtain rfl:=oi j
   exact ⟨rfl,⟨ce,cd,br,rfl,bt,bu,rfl,b,cf,l,(S.drop _ (.cons _ (.cons_cons _ .slnil)))⟩⟩
  refine CF ay<|Wx ?_
  obtain rfl:=oi j
  obtain rfl:=bq
  exact ⟨ac,af,br,bs,b,z,S⟩
 intro f w hM
 rcases av with u | e
 ·obtain ⟨ae,x,cg,ch,b,d,S⟩:=hM
  refine Ws<|Wg<|A<|We<|Ws<|Ws<|Wg<|M' ch<|Nq d<|M<|We ?_
  have S:=S.addNil 34 1
  refine B h fun a4 ci h=>WP.cut (fun f w=>match a4 with | .inl a5=>∃ (a6:Hp) (aj:Value),f 12=aj∧Sl (α:=(List Str)) a6 aj a5∧St w0 o w a6 [.row aj 34 1 a5.length] | .inr _=>False) ?_ ?_
  ·refine Wb ?_
   refine WP.loopM (zAt q u) (fun s f w=>match s with | (ah,bv)=>∃ (ad:Hp) (ab:Value),f 1=t∧f 12=ab∧f 43=x∧f 44=(int (u.length:Int))∧f 45=(int bv)∧Sl (α:=GAxis) ad t q∧Sl (α:=(List Str)) ad ab ah∧Sl (α:=(List Str)) ad x u∧St w0 o w ad [.row ab 34 1 ah.length,.row x 34 1 u.length]) (([]:List (List Str)),0) a4 ci ?_ ?_
   ·exact ⟨ae,.slice none 0 0,cg,rfl,rfl,rfl,rfl,b,Sl.nil,d,S⟩
   intro s f w hI de c bw
   obtain ⟨ah,bv⟩:=s
   obtain ⟨ad,ab,a7,ak,a8,a9,al,b,k,d,S⟩:=hI
   refine Ws<|Wg<|La' al a9<|We<|Ws ?_
   rcases condE c with ⟨ba,c⟩ | ⟨ba,c⟩
   ·refine CT ba<|Wk<|Ws<|Wb<|Ws<|Wg<|B c fun cj ck c=>W.idx (α:=(List Str)) d a8 al el33 ck ?_
    rintro df _ cl ⟨dh,rfl,cm⟩
    refine Lq S cl<|A<|We<|Ws<|Wg<|M' a7<|M<|B c fun bb cn c=>W.call S rfl (zHN S.holds q cj b cm cn) ?_
    rintro di dj dk bc S ⟨bd,rfl,p⟩
    have b:=Sl.mono b bc
    have k:=Sl.mono k bc
    have d:=Sl.mono d bc
    refine M ?_
    refine Ex ?_
    refine Ex ?_
    refine W.alloc [(.slice none 0 0)] S zer34 ?_
    intro bx dl S
    refine W.storeSl (α:=Str) (i:=0) [bd] S p rfl rfl rfl lay34 (Nat.le_of_ble_eq_true rfl) rfl ?_
    intro dm S
    refine A<|We<|Ws<|Ws<|Wg<|M<|No<|We ?_
    rcases condE c with ⟨be,c⟩ | ⟨be,c⟩
    ·refine CT be<|Ws<|Wg<|A<|A<|We ?_
     obtain rfl:=oi c
     obtain rfl:=bw
     obtain rfl:=oi h
     refine WP.ret (Out.two rfl S rfl rfl ?_)
     exact ⟨_,rfl,Sl.nil⟩
    refine CF be<|Wk<|Ws<|Wg<|M' ak ?_
    obtain ⟨bz,am,co,_,S⟩:=S.settle (i:=0) rfl
    replace S:St w0 o _ bz [.row ab 34 1 ah.length,.row x 34 1 u.length]:=S
    have an:At bz ⟨bx,0,none⟩ [bd]:=⟨_,_,rfl,co,[],by simp⟩
    have b:=Sl.mono b am
    have k:=Sl.mono k am
    have d:=Sl.mono d am
    have p:=Sl.mono p am
    refine WL.w (R.mkFunc (vs:=[(.pointer (some ⟨bx,0,none⟩))]) rfl)<|B c fun dn cp c=>W.call S rfl (zAy S.holds ah (fun x0=>zBv x0 bb.1) k (fun hle hw x0=>fun q0 r h=>zHX hw x0 bb.1 q0 (At.mono an hle (by simp)) (Sl.mono p hle) h) cp) ?_
    rintro dp dq cr ai S rfl
    have b:=Sl.mono b ai
    have k:=Sl.mono k ai
    have d:=Sl.mono d ai
    have p:=Sl.mono p ai
    have an:=At.mono an ai (by simp)
    refine No<|We ?_
    rcases condE c with ⟨bg,c⟩ | ⟨bg,c⟩
    ·refine CT bg<|Wg<|M' ak ?_
     refine Lq S an<|W.bslice (α:=(List Str)) [bd] ([bb.1]:List (List Str)) S el33 rfl rfl rfl (by decide) (Go.Eng.encS ⟨(by rw [Sl.cellsOne p]; rfl),_,(by rw [Sl.cellsOne p]),p⟩ enc0) ?_
     intro dr ds dt bh cs S
     have b:=Sl.mono b bh
     have k:=Sl.mono k bh
     have d:=Sl.mono d bh
     refine B c fun du ct c=>W.app (α:=(List Str)) (i:=1) S el33 rfl rfl rfl k cs ct ?_
     intro cu dw cv bi cw S
     have b:=Sl.mono b bi
     have k:=Sl.mono k bi
     have d:=Sl.mono d bi
     refine A<|We<|Wg<|Lg' al rfl<|M<|We ?_
     obtain rfl:=oi c
     exact ⟨rfl,⟨cv,cu,a7,rfl,a8,a9,rfl,b,cw,d,(S.drop _ (.cons _ (.cons_cons _ (.cons_cons _ .slnil))))⟩⟩
    refine CF bg<|Wk<|Wg<|Lg' al rfl<|M<|We ?_
    obtain rfl:=oi c
    exact ⟨rfl,⟨cr,ab,a7,ak,a8,a9,rfl,b,k,d,S⟩⟩
   refine CF ba<|Wx ?_
   obtain rfl:=oi c
   obtain rfl:=bw
   exact ⟨ad,ab,ak,k,(S.drop _ (.cons_cons _ (.cons _ .slnil)))⟩
  intro f w hM
  rcases a4 with a5 | e
  ·obtain ⟨a6,aj,cx,cy,S⟩:=hM
   refine Ws<|Wg<|M' cx<|A<|A<|We ?_
   obtain rfl:=oi h
   refine WP.ret (Out.two rfl S rfl rfl ?_)
   exact ⟨_,rfl,cy⟩
  exact hM.elim
 exact hM.elim
theorem zLl {p:World} {k:Hp} (hw:Holds p k) (t:(List GField)) {ai:Value} (aj:Sl (α:=GField) k ai t) {r:((List Str)×Bool)} (h:zHu t=some r) :
  Con Tryz.prog 69 [ai] p k (fun H' v=>∃ u1:Value,v=(.tuple ⟨[u1,(boo r.2)]⟩)∧Sl (α:=Str) H' u1 r.1):=by
 refine Con.mk (N:=36) Tryz.func69 rfl rfl kr rfl ?_
 have S:=St.start hw
 have bh:=aj
 refine Ws<|Wg<|A<|A<|We<|Ws<|Wg<|M<|B h fun u a0 h=>W.call S rfl (zDx S.holds t [86,97,114,121] aj a0) ?_
 rintro v2 w3 H4 bj S c
 refine A<|We<|Ws<|Ws<|Wg<|M<|Nq c<|Ld<|We ?_
 rcases condE h with ⟨x,h⟩ | ⟨x,h⟩
 ·refine CT x<|Ws<|Wg<|A<|A<|We ?_
  obtain rfl:=oi h
  refine WP.ret (Out.two rfl S rfl rfl ?_)
  exact ⟨_,rfl,Sl.nil⟩
 refine CF x<|Wk<|Ws<|Wg<|A<|We<|Ws<|Ws<|Wg<|M<|Nq c<|M ?_
 refine We ?_
 have S:=S.addNil 9 1
 refine B h fun z a2 h=>WP.cut (fun f w=>match z with | .inl aa=>∃ (ab:Hp) (q:Value),f 5=q∧Sl (α:=Str) ab q aa∧St p k w ab [.row q 9 1 aa.length] | .inr _=>False) ?_ ?_
 ·refine Wb ?_
  refine WP.loopM (zCP u) (fun s f w=>match s with | (ac,am)=>∃ (l:Hp) (o:Value),f 5=o∧f 13=v2∧f 14=(int (u.length:Int))∧f 15=(int am)∧Sl (α:=Str) l o ac∧Sl (α:=Str) l v2 u∧St p k w l [.row o 9 1 ac.length]) (([]:List Str),0) z a2 ?_ ?_
  ·exact ⟨H4,.slice none 0 0,rfl,rfl,rfl,rfl,Sl.nil,c,S⟩
  intro s f w hI bk b an
  obtain ⟨ac,am⟩:=s
  obtain ⟨l,o,ao,ap,aq,ad,d,c,S⟩:=hI
  refine Ws<|Wg<|La' ad aq<|We<|Ws ?_
  rcases condE b with ⟨ae,b⟩ | ⟨ae,b⟩
  ·refine CT ae<|Wk<|Ws<|Wb<|Ws<|Wg<|B b fun af a3 b=>W.idx (α:=Str) c ap ad el34 a3 ?_
   rintro bn _ a4 rfl
   refine Lq S a4<|A<|We<|Ws<|Ws<|Wg<|M<|B b fun ar a5 b=>W.call S rfl (zAz S.holds af a5) ?_
   rintro bo bp bq au S rfl
   have d:=Sl.mono d au
   have c:=Sl.mono c au
   refine No<|M ?_
   refine WL.grp 3 [23,24] 25 (boo ((!ar)||(af==[42]))) ?_ ?_
   ·rcases boolE (!ar) with j | j
    ·refine Gn j<|Gn j<|Pt j ?_
     exact We ⟨(orT j),ag,rfl⟩
    refine Gy j<|M<|Gy j<|Na<|Pf j ?_
    exact We ⟨(orF j),ag,rfl⟩
   intro us
   refine We ?_
   rcases condE b with ⟨ah,b⟩ | ⟨ah,b⟩
   ·refine CT ah<|Ws<|Wg<|A<|A<|We ?_
    obtain rfl:=oi b
    obtain rfl:=an
    obtain rfl:=oi h
    refine WP.ret (Out.two rfl S rfl rfl ?_)
    exact ⟨_,rfl,Sl.nil⟩
   refine CF ah<|Wk<|Wg<|M' ao<|M<|B b fun av a6 b=>W.call S rfl (zAV S.holds af a6) ?_
   rintro br bs bt aw S rfl
   have d:=Sl.mono d aw
   have c:=Sl.mono c aw
   refine W.bslice (α:=Str) [(str av)] ([av]:List Str) S el34 rfl rfl rfl (by decide) (Go.Eng.encS ⟨rfl,rfl⟩ enc0) ?_
   intro bu bv bw ax a7 S
   have d:=Sl.mono d ax
   have c:=Sl.mono c ax
   refine B b fun bx a8 b=>W.app (α:=Str) (i:=1) S el34 rfl rfl rfl d a7 a8 ?_
   intro a9 bz ba ay bb S
   have d:=Sl.mono d ay
   have c:=Sl.mono c ay
   refine A<|We<|Wg<|Lg' ad rfl<|M<|We ?_
   obtain rfl:=oi b
   exact ⟨rfl,⟨ba,a9,rfl,ap,aq,rfl,bb,c,(S.drop _ (.cons _ (.cons_cons _ .slnil)))⟩⟩
  refine CF ae<|Wx ?_
  obtain rfl:=oi b
  obtain rfl:=an
  exact ⟨l,o,ao,d,S⟩
 intro f w hM
 rcases z with aa | e
 ·obtain ⟨ab,q,az,bc,S⟩:=hM
  refine Ws<|Wg<|M' az<|B h fun b0 bd h=>W.sortRow (i:=0) zHF hw S rfl rfl bc bd ?_
  intro b1 b2 b3 be S
  refine We<|Ws<|Wg<|M' az<|B h fun b4 bf h=>W.compactRow (i:=0) zF9 hw S rfl rfl be bf ?_
  intro b5 b6 b7 b8 bg S
  refine A<|A<|We ?_
  obtain rfl:=oi h
  refine WP.ret (Out.two rfl S rfl rfl ?_)
  exact ⟨_,rfl,bg⟩
 exact hM.elim
theorem zK3 {z:World} {p:Hp} (hw:Holds z p) (c:GRequest) (b:GResponse) (d:Int) (j:Int) {u:Value} {t:Value} (aj:Sl (α:=GField) p u c.fFields) (aa:Sl (α:=GField) p t b.fFields) {r:(GEntry×(List GAxis))} (h:zHl c b d j=some r) :
  Con Tryz.prog 31 [(agg [(str c.fMethod),(str c.fTarget),(int c.fMinor),u,(str c.fBody)]),(agg [(int b.fMinor),(int b.fStatus),(str b.fReason),t,(str b.fBody)]),(int d),(int j)] z p (fun H' v=>∃ u1 u2 u3 u4 u5:Value,v=(.tuple ⟨[(agg [u1,u2,u3,(str r.1.fReason),u4,(str r.1.fBody),(int r.1.fRequested),(int r.1.fReceived)]),u5]⟩)∧Sl (α:=(List Str)) H' u1 r.1.fKeys∧Sl (α:=Str) H' u2 r.1.fVary∧Sl (α:=Str) H' u3 r.1.fSnapshot∧Sl (α:=GField) H' u4 r.1.fFields∧Sl (α:=GAxis) H' u5 r.2):=by
 refine Con.mk (N:=62) Tryz.func31 rfl rfl kr rfl ?_
 have S:=St.start hw
 refine Ws<|Wg ?_
 refine W.box [(str c.fMethod),(str c.fTarget),(int c.fMinor),u,(str c.fBody)] S rfl rfl ?_
 intro b1 w2 S
 refine W.box [(int b.fMinor),(int b.fStatus),(str b.fReason),t,(str b.fBody)] S rfl rfl ?_
 intro b3 w4 S
 refine W.alloc [(.slice none 0 0),(.slice none 0 0),(.slice none 0 0),(str []),(.slice none 0 0),(str []),(int 0),(int 0)] S zer36 ?_
 intro b5 w6 S
 refine A<|We<|Ws<|B h fun r7 bf h=>WP.cut (fun f w=>∃ (ao:Hp) (az:Nat) (k:Value),f 4=(ptr b1 0)∧f 5=(ptr b3 0)∧f 8=(ptr b5 0)∧f 10=(ptr az 0)∧Sl (α:=GField) ao k r7∧Sl (α:=GField) ao t b.fFields∧Sl (α:=GField) ao u c.fFields∧St z p w ao [.box az 36 [(.slice none 0 0),(.slice none 0 0),(.slice none 0 0),(str b.fReason),k,(str b.fBody),(int d),(int j)],.box b5 36 [(.slice none 0 0),(.slice none 0 0),(.slice none 0 0),(str []),(.slice none 0 0),(str []),(int 0),(int 0)],.box b3 54 [(int b.fMinor),(int b.fStatus),(str b.fReason),t,(str b.fBody)],.box b1 52 [(str c.fMethod),(str c.fTarget),(int c.fMinor),u,(str c.fBody)]]) ?_ ?_
 ·refine WP.drawC (Cl z p p [.box b5 36 [(.slice none 0 0),(.slice none 0 0),(.slice none 0 0),(str []),(.slice none 0 0),(str []),(int 0),(int 0)],.box b3 54 [(int b.fMinor),(int b.fStatus),(str b.fReason),t,(str b.fBody)],.box b1 52 [(str c.fMethod),(str c.fTarget),(int c.fMinor),u,(str c.fBody)]]) kr 12 rfl (bm 12 0) rfl ?_
  have S:=S.drew
  refine WC.take (i:=0) (bm 12 1) rfl kr kr kr rfl (fun _ _=>(R.fieldB rfl zPO)) ?_
  refine WC.take (i:=1) (bm 12 3) rfl kr kr kr rfl (fun w hw=>by obtain ⟨_,hq,S⟩:=hw; exact (R.loadB (i:=1) (v:=str b.fReason) S rfl rfl lay9 rfl)) ?_
  refine WC.take (i:=2) (bm 12 7) rfl kr kr kr rfl (fun _ _=>(R.fieldB rfl zPn)) ?_
  refine WC.take (i:=3) (bm 12 15) rfl kr kr kr rfl (fun w hw=>by obtain ⟨_,hq,S⟩:=hw; exact (R.loadB (i:=1) (v:=t) S rfl rfl lay26 rfl)) ?_
  refine WC.take (i:=5) (bm 12 47) rfl kr kr kr rfl (fun _ _=>(R.fieldB rfl zPY)) ?_
  refine WC.take (i:=6) (bm 12 111) rfl kr kr kr rfl (fun w hw=>by obtain ⟨_,hq,S⟩:=hw; exact (R.loadB (i:=1) (v:=str b.fBody) S rfl rfl lay9 rfl)) ?_
  refine WC.take (i:=7) (bm 12 239) rfl kr kr kr rfl (fun _ _=>(R.mv (v:=int d) rfl)) ?_
  refine WC.take (i:=8) (bm 12 495) rfl kr kr kr rfl (fun _ _=>(R.mv (v:=int j) rfl)) ?_
  refine WC.next (rs:=[4,10]) ⟨p,(Hp.le.refl _),S.drop _ (.cons_cons _ (.cons_cons _ (.cons_cons _ .slnil)))⟩ kr (List.cons_ne_nil _ _) (allS ?_ (all1 ?_))
  ·refine Nxt.mk (o:=_) (bm 12 511) rfl rfl<|W.call S rfl (zJI S.holds b.fFields aa bf) ?_
   rintro ae bv ak ap S a0
   have aj:=Sl.mono aj ap
   have aa:=Sl.mono aa ap
   refine We ?_
   refine WC.take (i:=9) (bm 12 1023) rfl kr kr kr rfl (fun _ _=>(R.build [(3,(str b.fReason)),(4,ae),(5,(str b.fBody)),(6,(int d)),(7,(int j))] [(.slice none 0 0),(.slice none 0 0),(.slice none 0 0),(str b.fReason),ae,(str b.fBody),(int d),(int j)] bp36 zer36 kr (by obtain ⟨_,_,rfl,_⟩:=a0; rfl))) ?_
   refine WC.next (rs:=[10]) ⟨ak,ap,S.drop _ (.cons_cons _ (.cons_cons _ (.cons_cons _ .slnil)))⟩ kr (List.cons_ne_nil _ _) (all1 ?_)
   refine Nxt.mk (o:=_) (bm 12 2047) rfl rfl ?_
   refine W.alloc [(.slice none 0 0),(.slice none 0 0),(.slice none 0 0),(str []),(.slice none 0 0),(str []),(int 0),(int 0)] S zer36 ?_
   intro a1 bw S
   refine We ?_
   refine WC.next (rs:=[11]) ⟨ak,ap,S.drop _ (.cons _ (.cons_cons _ (.cons_cons _ (.cons_cons _ .slnil))))⟩ kr (List.cons_ne_nil _ _) (all1 ?_)
   refine Nxt.mk (o:=_) (bm 12 4095) rfl rfl ?_
   refine W.store (i:=0) [(.slice none 0 0),(.slice none 0 0),(.slice none 0 0),(str b.fReason),ae,(str b.fBody),(int d),(int j)] S rfl rfl rfl lay36 rfl (AllOne.all (l:=[(.slice none 0 0),(.slice none 0 0),(.slice none 0 0),(str b.fReason),ae,(str b.fBody),(int d),(int j)]) (.cons rfl (.cons rfl (.cons rfl (.cons rfl (.cons (Sl.oneC a0) (.cons rfl (.cons rfl (.cons rfl .nil))))))))) (Nat.le_of_ble_eq_true rfl) rfl ?_
   intro bx S
   refine We<|WC.done ⟨ak,ap,S.drop _ (.cons _ (.cons_cons _ (.cons_cons _ (.cons_cons _ .slnil))))⟩ kr ?_
   have S3:=S
   replace S3:=S3.front 3 rfl
   replace S3:=S3.front 3 rfl
   replace S3:=S3.front 3 rfl
   replace S3:=S3.front 3 rfl
   replace S3:St z p _ ak [.box a1 36 [(.slice none 0 0),(.slice none 0 0),(.slice none 0 0),(str b.fReason),ae,(str b.fBody),(int d),(int j)],.box b5 36 [(.slice none 0 0),(.slice none 0 0),(.slice none 0 0),(str []),(.slice none 0 0),(str []),(int 0),(int 0)],.box b3 54 [(int b.fMinor),(int b.fStatus),(str b.fReason),t,(str b.fBody)],.box b1 52 [(str c.fMethod),(str c.fTarget),(int c.fMinor),u,(str c.fBody)]]:=S3
   replace S3:St z p _ ak [.box a1 36 [(.slice none 0 0),(.slice none 0 0),(.slice none 0 0),(str b.fReason),ae,(str b.fBody),(int d),(int j)],.box b5 36 [(.slice none 0 0),(.slice none 0 0),(.slice none 0 0),(str []),(.slice none 0 0),(str []),(int 0),(int 0)],.box b3 54 [(int b.fMinor),(int b.fStatus),(str b.fReason),t,(str b.fBody)],.box b1 52 [(str c.fMethod),(str c.fTarget),(int c.fMinor),u,(str c.fBody)]]:=S3.drop _ (.cons_cons _ (.cons_cons _ (.cons_cons _ (.cons_cons _ .slnil))))
   exact ⟨ak,a1,ae,rfl,rfl,rfl,rfl,a0,aa,aj,S3⟩
  refine Nxt.mk (o:=_) (bm 12 1519) rfl rfl ?_
  refine W.alloc [(.slice none 0 0),(.slice none 0 0),(.slice none 0 0),(str []),(.slice none 0 0),(str []),(int 0),(int 0)] S zer36 ?_
  intro a2 bz S
  refine We ?_
  refine WC.next (rs:=[4]) ⟨p,(Hp.le.refl _),S.drop _ (.cons _ (.cons_cons _ (.cons_cons _ (.cons_cons _ .slnil))))⟩ kr (List.cons_ne_nil _ _) (all1 ?_)
  refine Nxt.mk (o:=_) (bm 12 1535) rfl rfl<|W.call S rfl (zJI S.holds b.fFields aa bf) ?_
  rintro af b0 aq av S a3
  have aj:=Sl.mono aj av
  have aa:=Sl.mono aa av
  refine We ?_
  refine WC.take (i:=9) (bm 12 2047) rfl kr kr kr rfl (fun _ _=>(R.build [(3,(str b.fReason)),(4,af),(5,(str b.fBody)),(6,(int d)),(7,(int j))] [(.slice none 0 0),(.slice none 0 0),(.slice none 0 0),(str b.fReason),af,(str b.fBody),(int d),(int j)] bp36 zer36 kr (by obtain ⟨_,_,rfl,_⟩:=a3; rfl))) ?_
  refine WC.next (rs:=[11]) ⟨aq,av,S.drop _ (.cons _ (.cons_cons _ (.cons_cons _ (.cons_cons _ .slnil))))⟩ kr (List.cons_ne_nil _ _) (all1 ?_)
  refine Nxt.mk (o:=_) (bm 12 4095) rfl rfl ?_
  refine W.store (i:=0) [(.slice none 0 0),(.slice none 0 0),(.slice none 0 0),(str b.fReason),af,(str b.fBody),(int d),(int j)] S rfl rfl rfl lay36 rfl (AllOne.all (l:=[(.slice none 0 0),(.slice none 0 0),(.slice none 0 0),(str b.fReason),af,(str b.fBody),(int d),(int j)]) (.cons rfl (.cons rfl (.cons rfl (.cons rfl (.cons (Sl.oneC a3) (.cons rfl (.cons rfl (.cons rfl .nil))))))))) (Nat.le_of_ble_eq_true rfl) rfl ?_
  intro b2 S
  refine We<|WC.done ⟨aq,av,S.drop _ (.cons _ (.cons_cons _ (.cons_cons _ (.cons_cons _ .slnil))))⟩ kr ?_
  have S3:=S
  replace S3:=S3.front 3 rfl
  replace S3:=S3.front 3 rfl
  replace S3:=S3.front 3 rfl
  replace S3:=S3.front 3 rfl
  replace S3:St z p _ aq [.box a2 36 [(.slice none 0 0),(.slice none 0 0),(.slice none 0 0),(str b.fReason),af,(str b.fBody),(int d),(int j)],.box b5 36 [(.slice none 0 0),(.slice none 0 0),(.slice none 0 0),(str []),(.slice none 0 0),(str []),(int 0),(int 0)],.box b3 54 [(int b.fMinor),(int b.fStatus),(str b.fReason),t,(str b.fBody)],.box b1 52 [(str c.fMethod),(str c.fTarget),(int c.fMinor),u,(str c.fBody)]]:=S3
  replace S3:St z p _ aq [.box a2 36 [(.slice none 0 0),(.slice none 0 0),(.slice none 0 0),(str b.fReason),af,(str b.fBody),(int d),(int j)],.box b5 36 [(.slice none 0 0),(.slice none 0 0),(.slice none 0 0),(str []),(.slice none 0 0),(str []),(int 0),(int 0)],.box b3 54 [(int b.fMinor),(int b.fStatus),(str b.fReason),t,(str b.fBody)],.box b1 52 [(str c.fMethod),(str c.fTarget),(int c.fMinor),u,(str c.fBody)]]:=S3.drop _ (.cons_cons _ (.cons_cons _ (.cons_cons _ (.cons_cons _ .slnil))))
  exact ⟨aq,a2,af,rfl,rfl,rfl,rfl,a3,aa,aj,S3⟩
 rintro f w ⟨ao,az,k,bj,a4,aw,al,q,ah,ai,S⟩
 refine Ws<|Wg<|Fb' a4 ?_
 refine Lo 2 S<|B h fun a5 bk h=>W.call S rfl (zJB S.holds b.fFields ah bk) ?_
 rintro b4 b6 b7 a6 S ⟨b8,rfl,ax⟩
 have ah:=Sl.mono ah a6
 have q:=Sl.mono q a6
 have ai:=Sl.mono ai a6
 refine M ?_
 refine Ex ?_
 refine Ex<|A<|A<|We<|Ws<|Wg<|Fb' a4 ?_
 refine Lo 2 S<|M<|B h fun bn bo h=>W.call S rfl (zIM S.holds b.fFields a5.1 ah ax bo) ?_
 rintro b9 ca cb ay S ⟨ar,rfl,a7⟩
 have ah:=Sl.mono ah ay
 have ax:=Sl.mono ax ay
 have q:=Sl.mono q ay
 have ai:=Sl.mono ai ay
 refine M ?_
 refine Ex ?_
 refine Ex<|A<|A<|We<|Ws<|Ws<|Wg<|M<|Le<|M ?_
 refine WL.grp 3 [41,42] 43 (boo ((a5.2==0)&&(bn.2==0))) ?_ ?_
 ·rcases boolE (a5.2==0) with x | x
  ·refine Gy x<|M<|Gy x<|Le<|Pt x ?_
   exact We ⟨(andT x),ag,rfl⟩
  refine Gn x<|Gn x<|Pf x ?_
  exact We ⟨(andF x),ag,rfl⟩
 intro us
 refine We ?_
 rcases condE h with ⟨a8,h⟩ | ⟨a8,h⟩
 ·refine CT a8<|Ws<|Wg<|M<|Fb' al ?_
  refine W.storeSl (α:=(List Str)) (i:=0) [ar,(.slice none 0 0),(.slice none 0 0),(str b.fReason),k,(str b.fBody),(int d),(int j)] S a7 rfl rfl rfl lay33 (Nat.le_of_ble_eq_true rfl) rfl ?_
  intro cc S
  refine We<|Ws<|Wg ?_
  refine WL.w (R.loadBN (i:=0) (vs:=[ar,(.slice none 0 0),(.slice none 0 0),(str b.fReason),k,(str b.fBody),(int d),(int j)]) S al rfl lay36 rfl rfl)<|M ?_
  refine W.store (i:=1) [ar,(.slice none 0 0),(.slice none 0 0),(str b.fReason),k,(str b.fBody),(int d),(int j)] S aw rfl rfl lay36 rfl (AllOne.all (l:=[ar,(.slice none 0 0),(.slice none 0 0),(str b.fReason),k,(str b.fBody),(int d),(int j)]) (.cons (Sl.oneC a7) (.cons rfl (.cons rfl (.cons rfl (.cons (Sl.oneC q) (.cons rfl (.cons rfl (.cons rfl .nil))))))))) (Nat.le_of_ble_eq_true rfl) rfl ?_
  intro cd S
  refine A<|We ?_
  obtain rfl:=oi h
  refine WP.ret (Out.two rfl S (Res.cellB (i:=1) (cs:=[ar,(.slice none 0 0),(.slice none 0 0),(str b.fReason),k,(str b.fBody),(int d),(int j)]) S aw rfl lay36 rfl rfl) rfl ?_)
  exact ⟨_,_,_,_,_,rfl,a7,Sl.nil,Sl.nil,q,ax⟩
 refine CF a8<|Wk<|Ws<|Wg<|Fb' a4 ?_
 refine Lo 2 S<|B h fun bp bq h=>W.call S rfl (zLl S.holds b.fFields ah bq) ?_
 rintro ce cf cg bg S ⟨am,rfl,an⟩
 have q:=Sl.mono q bg
 have ai:=Sl.mono ai bg
 refine M ?_
 refine Ex ?_
 refine Ex<|Fb' al ?_
 refine W.storeSl (α:=Str) (i:=0) [(.slice none 0 0),am,(.slice none 0 0),(str b.fReason),k,(str b.fBody),(int d),(int j)] S an rfl rfl rfl lay34 (Nat.le_of_ble_eq_true rfl) rfl ?_
 intro ch S
 refine We<|Ws<|Wg<|Fb' al ?_
 refine Lo 0 S<|Fb' bj ?_
 refine Lo 3 S<|B h fun ci br h=>W.call S rfl (zG9 S.holds bp.1 c.fFields an ai br) ?_
 rintro au cj ck bh S a9
 have an:=Sl.mono an bh
 have q:=Sl.mono q bh
 refine Fb' al ?_
 refine W.storeSl (α:=Str) (i:=0) [(.slice none 0 0),am,au,(str b.fReason),k,(str b.fBody),(int d),(int j)] S a9 rfl rfl rfl lay34 (Nat.le_of_ble_eq_true rfl) rfl ?_
 intro cl S
 refine We<|Ws<|Wg ?_
 refine WL.w (R.loadBN (i:=0) (vs:=[(.slice none 0 0),am,au,(str b.fReason),k,(str b.fBody),(int d),(int j)]) S al rfl lay36 rfl rfl) ?_
 refine W.store (i:=1) [(.slice none 0 0),am,au,(str b.fReason),k,(str b.fBody),(int d),(int j)] S aw rfl rfl lay36 rfl (AllOne.all (l:=[(.slice none 0 0),am,au,(str b.fReason),k,(str b.fBody),(int d),(int j)]) (.cons rfl (.cons (Sl.oneC an) (.cons (Sl.oneC a9) (.cons rfl (.cons (Sl.oneC q) (.cons rfl (.cons rfl (.cons rfl .nil))))))))) (Nat.le_of_ble_eq_true rfl) rfl ?_
 intro cm S
 refine A<|We ?_
 obtain rfl:=oi h
 refine WP.ret (Out.two rfl S (Res.cellB (i:=1) (cs:=[(.slice none 0 0),am,au,(str b.fReason),k,(str b.fBody),(int d),(int j)]) S aw rfl lay36 rfl rfl) rfl ?_)
 exact ⟨_,_,_,_,_,rfl,Sl.nil,an,a9,q,Sl.nil⟩
theorem zSe {l:World} {c:Hp} (hw:Holds l c) (j:(List (List Str))) (o:(List (List Str))) (u:((List Str)→(List Str)→Option Bool)) {p:Value} {q:Value} {kp_eq:FuncId} {cp_eq:List Value} (d:Sl (α:=(List Str)) c p j) (i:Sl (α:=(List Str)) c q o) (Fp_eq:∀ {w:World} {H:Hp},c.le H→Holds w H→∀ (x0:(List Str)) (x1:(List Str)),∀ {y0 y1:Value},Sl (α:=Str) H y0 x0→Sl (α:=Str) H y1 x1→∀ (rr:Bool),u x0 x1=some rr→Con Tryz.prog kp_eq ([y0,y1]++cp_eq) w H (fun H' v=>v=(boo rr))) {r:Bool} (h:zSU j o u=some r) :
  Con Tryz.prog 71 [p,q,(.func (.func kp_eq) #[] cp_eq.toArray)] l c (fun H' v=>v=(boo r)):=by
 refine Con.mk (N:=32) Tryz.func71 rfl rfl kr rfl ?_
 have S:=St.start hw
 refine Ws<|Wg<|A<|We<|Ws<|Ws<|Wg<|M<|Nq d<|M<|Nq i<|Lf ?_
 refine We ?_
 rcases condE h with ⟨x,h⟩ | ⟨x,h⟩
 ·refine CT x<|Ws<|Wg<|A<|We ?_
  obtain rfl:=oi h
  refine WP.ret (Out.one rfl S rfl ?_)
  exact rfl
 refine CF x<|Wk<|Ws<|Ws<|Wg<|M<|Nq d<|M<|We<|B h fun z ap h=>WP.cut (fun f w=>match z with | .inl _=>∃ (H9:Hp),St l c w H9 [] | .inr _=>False) ?_ ?_
 ·refine Wb ?_
  refine WP.loopM (zST j o u) (fun s f w=>match s with | ai=>∃ (k:Hp),f 1=q∧f 2=(.func (.func kp_eq) #[] cp_eq.toArray)∧f 15=p∧f 16=(int (j.length:Int))∧f 17=(int ai)∧Sl (α:=(List Str)) k q o∧Sl (α:=(List Str)) k p j∧St l c w k []) 0 z ap ?_ ?_
  ·exact ⟨c,rfl,rfl,rfl,rfl,rfl,i,d,S⟩
  intro ai f w hI a2 b aj
  obtain ⟨k,h3,h4,h5,h6,t,i,d,S⟩:=hI
  refine Ws<|Wg<|La' t h6<|We<|Ws ?_
  rcases condE b with ⟨aa,b⟩ | ⟨aa,b⟩
  ·refine CT aa<|Wk<|Ws<|Wb<|Ws<|Wg<|M' t<|B b fun aq ar b=>W.idx (α:=(List Str)) d h5 t el33 ar ?_
   rintro a3 _ au ⟨a4,rfl,av⟩
   refine Lq S au<|A<|A<|We<|Ws<|Wg<|M' h3<|M<|B b fun aw ax b=>W.idx (α:=(List Str)) i rfl rfl el33 ax ?_
   rintro a5 _ ay ⟨a6,rfl,az⟩
   refine Lq S ay<|A<|We<|Ws<|Wg<|M' h4<|M<|M<|B b fun a7 a0 b=>W.callv S rfl rfl (Fp_eq (S.post.le) S.holds aq aw av az _ a0) ?_
   rintro a8 a9 a1 ao S rfl
   have i:=Sl.mono i ao
   have d:=Sl.mono d ao
   refine No<|We ?_
   rcases condE b with ⟨ab,b⟩ | ⟨ab,b⟩
   ·refine CT ab<|Ws<|Wg<|A<|We ?_
    obtain rfl:=oi b
    obtain rfl:=aj
    obtain rfl:=oi h
    refine WP.ret (Out.one rfl S rfl ?_)
    exact rfl
   refine CF ab<|Wk<|Wg<|Lg' t rfl<|M<|We ?_
   obtain rfl:=oi b
   exact ⟨rfl,⟨a1,h3,h4,h5,h6,rfl,i,d,S⟩⟩
  refine CF aa<|Wx ?_
  obtain rfl:=oi b
  obtain rfl:=aj
  exact ⟨k,S⟩
 intro f w hM
 rcases z with _ | e
 ·obtain ⟨H9,S⟩:=hM
  refine Ws<|Wg<|A<|We ?_
  obtain rfl:=oi h
  refine WP.ret (Out.one rfl S rfl ?_)
  exact rfl
 exact hM.elim
theorem zSz {f:World} {b:Hp} (hw:Holds f b) (c:(List Str)) (d:(List Str)) {i:Value} {j:Value} (k:Sl (α:=Str) b i c) (l:Sl (α:=Str) b j d) {r:Bool} (h:zSl c d=some r) :
  Con Tryz.prog 72 [i,j] f b (fun H' v=>v=(boo r)):=by
 refine Con.mk (N:=8) Tryz.func72 rfl rfl kr rfl ?_
 have S:=St.start hw
 refine Ws<|Wg<|A<|We<|Ws<|Wg<|M<|M<|B h fun p o h=>W.call S rfl (zAu S.holds c d k l o) ?_
 rintro q t u x S rfl
 refine A<|We ?_
 obtain rfl:=oi h
 refine WP.ret (Out.one rfl S rfl ?_)
 exact rfl
theorem zSk {l:World} {d:Hp} (hw:Holds l d) (j:(List GField)) (o:(List GField)) {p:Value} {q:Value} (c:Sl (α:=GField) d p j) (i:Sl (α:=GField) d q o) {r:Bool} (h:zSW j o=some r) :
  Con Tryz.prog 74 [p,q] l d (fun H' v=>v=(boo r)):=by
 refine Con.mk (N:=26) Tryz.func74 rfl rfl kr rfl ?_
 have S:=St.start hw
 refine Ws<|Wg<|A<|We<|Ws<|Ws<|Wg<|M<|Nq c<|M<|Nq i<|Lf ?_
 refine We ?_
 rcases condE h with ⟨x,h⟩ | ⟨x,h⟩
 ·refine CT x<|Ws<|Wg<|A<|We ?_
  obtain rfl:=oi h
  refine WP.ret (Out.one rfl S rfl ?_)
  exact rfl
 refine CF x<|Wk<|Ws<|Ws<|Wg<|M<|Nq c<|M<|We<|B h fun z al h=>WP.cut (fun f w=>match z with | .inl _=>∃ (H8:Hp),St l d w H8 [] | .inr _=>False) ?_ ?_
 ·refine Wb ?_
  refine WP.loopM (zSV j o) (fun s f w=>match s with | ae=>∃ (k:Hp),f 0=p∧f 1=q∧f 12=(int (j.length:Int))∧f 13=(int ae)∧Sl (α:=GField) k p j∧Sl (α:=GField) k q o∧St l d w k []) 0 z al ?_ ?_
  ·exact ⟨d,rfl,rfl,rfl,rfl,c,i,S⟩
  intro ae f w hI y9 b af
  obtain ⟨k,h3,h4,h5,h7,c,i,S⟩:=hI
  refine Ws<|Wg<|La' h7 h5<|We<|Ws ?_
  rcases condE b with ⟨ab,b⟩ | ⟨ab,b⟩
  ·refine CT ab<|Wk<|Ws<|Wb<|Ws<|Wg<|M' h7<|A<|We<|Ws<|WP.quiet S kr kr<|QM' h3 ?_
   refine QM<|B b fun t am b=>WQ.idx (α:=GField) c rfl rfl el26 am ?_
   rintro au _ an rfl
   refine WQ.val (fun w hw=>by obtain ⟨_,hq,S⟩:=hw; exact (R.loadHN (vs:=[(str t.fName),(str t.fValue)]) S rfl (At.mono an hq (by simp)) lay64 rfl rfl))<|QM' h4<|QM<|B b fun u ao b=>WQ.idx (α:=GField) i rfl rfl el26 ao ?_
   rintro av _ ap rfl
   refine WQ.val (fun w hw=>by obtain ⟨_,hq,S⟩:=hw; exact (R.loadHN (vs:=[(str u.fName),(str u.fValue)]) S rfl (At.mono ap hq (by simp)) lay64 rfl rfl)) ?_
   refine WQ.val (fun _ _=>(R.neqA (!((t.fName==u.fName)&&((t.fValue==u.fValue)&&true))) rfl rfl ps64 fk64 rfl rfl rfl))<|WQ.nil ?_
   intro aw aq ak S
   have c:=Sl.mono c ak
   have i:=Sl.mono i ak
   rcases condE b with ⟨ac,b⟩ | ⟨ac,b⟩
   ·refine CT ac<|Ws<|Wg<|A<|We ?_
    obtain rfl:=oi b
    obtain rfl:=af
    obtain rfl:=oi h
    refine WP.ret (Out.one rfl S rfl ?_)
    exact rfl
   refine CF ac<|Wk<|Wg<|Lg' h7 rfl<|M<|We ?_
   obtain rfl:=oi b
   exact ⟨rfl,⟨aq,h3,h4,h5,rfl,c,i,S⟩⟩
  refine CF ab<|Wx ?_
  obtain rfl:=oi b
  obtain rfl:=af
  exact ⟨k,S⟩
 intro f w hM
 rcases z with _ | e
 ·obtain ⟨H8,S⟩:=hM
  refine Ws<|Wg<|A<|We ?_
  obtain rfl:=oi h
  refine WP.ret (Out.one rfl S rfl ?_)
  exact rfl
 exact hM.elim
end Go.Proofs

/- A part. -/
import Derived.Test.YtipgfplekgdoiaaGreatDoorEng38
import Derived.Test.YtipgfplekgdoiaaGreatDoorEng33
import Derived.Test.YtipgfplekgdoiaaGreatDoorGenK23
namespace Go.Proofs
set_option maxHeartbeats 4000000
set_option maxRecDepth 10000
open Go.Eng Go.Eng.Pure
set_option linter.unusedVariables false
theorem zIM {w0:World} {o:Hp} (hw:Holds w0 o) (ao:(List GField)) (q:(List GAxis)) {bj:Value} {t:Value} (ap:Sl o bj ao) (b:Sl o t q) {r:((List (List Str))×Int)} (h:zDr ao q=some r) :
  Con Tryz.prog 68 [bj,t] w0 o (fun H' v=>∃ u1:Value,v=(.tuple ⟨[u1,(int r.2)]⟩)∧Sl H' u1 r.1):=by
 refine CM 67 Tryz.func68 hw fun S=>?_
 refine Ws<|Wg<|A<|A<|We<|Ws<|Ws<|Wg<|M<|B h fun r1 b0 h=>W.call S rfl (zCD S.holds q b b0) ?_
 rintro v2 w3 H4 bn S rfl
 have ap:=ap.up bn
 have b:=b.up bn
 refine No<|We ?_
 rcases condE h with ⟨aq,h⟩ | ⟨aq,h⟩
 ·refine CT aq<|Ws<|Wg<|A<|A<|We ?_
  cases h
  refine WP.ret (Out.two rfl S rfl rfl ?_)
  exact ⟨_,rfl,Sl.nil⟩
 refine CF aq<|Wk<|Ws<|Wg<|M<|B h fun r7 b1 h=>W.call S rfl (zDx S.holds ao [86,97,114,105,97,110,116,45,75,101,121] ap b1) ?_
 rintro v8 w9 b2 b3 S l
 have b:=b.up b3
 refine A<|We<|Ws<|Ws<|Wg<|M<|Nq l<|Le<|We ?_
 rcases condE h with ⟨au,h⟩ | ⟨au,h⟩
 ·refine CT au<|Ws<|Wg<|A<|A<|We ?_
  cases h
  refine WP.ret (Out.two rfl S rfl rfl ?_)
  exact ⟨_,rfl,Sl.nil⟩
 refine CF au<|Wk<|Ws<|Wg<|A<|We<|Ws<|Ws<|Wg<|M<|Nq l<|M ?_
 refine We ?_
 have S:=S.addNil 34 1
 refine B h fun av b4 h=>WP.cut (fun f w=>match av with | .inl u=>∃ (ae:Hp) (x:Value),f 1=t∧f 7=x∧Sl ae t q∧Sl ae x u∧St w0 o w ae [.row x 34 1 u.length] | .inr _=>False) ?_ ?_
 ·refine Wb ?_
  refine WP.loopM (zBm r7) (fun s f w=>match s with | (aw,bp)=>∃ (ac:Hp) (af:Value),f 1=t∧f 7=af∧f 25=v8∧f 26=(int (r7.length:Int))∧f 27=(int bp)∧Sl ac t q∧Sl ac af aw∧Sl ac v8 r7∧St w0 o w ac [.row af 34 1 aw.length]) (([]:List (List Str)),0) av b4 ?_ ?_
  ·exact ⟨b2,.slice none 0 0,rfl,rfl,rfl,rfl,rfl,b,Sl.nil,l,S⟩
  intro s f w hI c4 j bq
  obtain ⟨aw,bp⟩:=s
  obtain ⟨ac,af,br,bs,bt,bu,ax,b,z,l,S⟩:=hI
  refine Ws<|Wg<|La' ax bu<|We<|Ws ?_
  rcases condE j with ⟨ay,j⟩ | ⟨ay,j⟩
  ·refine CT ay<|Wk<|Ws<|Wb<|Ws<|Wg<|B j fun b5 b6 j=>W.idx (α:=Str) l bt ax el34 b6 ?_
   rintro c5 _ b7 rfl
   refine Lq S b7<|A<|We<|Ws<|Wg<|M<|B j fun b8 b9 j=>W.call S rfl (zIQ S.holds b5 b9) ?_
   rintro c6 c7 c8 az S ⟨ca,rfl,a0⟩
   have b:=b.up az
   have z:=z.up az
   have l:=l.up az
   refine M ?_
   refine Ex ?_
   refine Ex<|A<|A<|We<|Ws<|Ws<|Wg<|M<|No<|We ?_
   rcases condE j with ⟨a1,j⟩ | ⟨a1,j⟩
   ·refine CT a1<|Ws<|Wg<|A<|A<|We ?_
    cases j
    obtain rfl:=bq
    cases h
    refine WP.ret (Out.two rfl S rfl rfl ?_)
    exact ⟨_,rfl,Sl.nil⟩
   refine CF a1<|Wk<|Wg<|M' bs<|M<|W.bslice (α:=(List Str)) [ca] ([b8.1]:List (List Str)) S el33 rfl rfl rfl (by decide) (Go.Eng.encS ⟨(by rw [Sl.cellsOne a0]; rfl),_,(by rw [Sl.cellsOne a0]),a0⟩ enc0) ?_
   intro c9 da db a2 cb S
   have b:=b.up a2
   have z:=z.up a2
   have l:=l.up a2
   refine B j fun dc cc j=>W.app (α:=(List Str)) (i:=1) S el33 rfl rfl rfl z cb cc ?_
   intro cd dd ce a3 cf S
   have b:=b.up a3
   have z:=z.up a3
   have l:=l.up a3
   refine A<|We<|Wg<|Lg' ax rfl<|M<|We ?_
   cases j
   exact ⟨rfl,⟨ce,cd,br,rfl,bt,bu,rfl,b,cf,l,(S.drop _ (.cons _ (.cons_cons _ .slnil)))⟩⟩
  refine CF ay<|Wx ?_
  cases j
  obtain rfl:=bq
  exact ⟨ac,af,br,bs,b,z,S⟩
 intro f w hM
 rcases av with u | e
 ·obtain ⟨ae,x,cg,ch,b,d,S⟩:=hM
  refine Ws<|Wg<|A<|We<|Ws<|Ws<|Wg<|M' ch<|Nq d<|M<|We ?_
  have S:=S.addNil 34 1
  refine B h fun a4 ci h=>WP.cut (fun f w=>match a4 with | .inl a5=>∃ (a6:Hp) (aj:Value),f 12=aj∧Sl a6 aj a5∧St w0 o w a6 [.row aj 34 1 a5.length] | .inr _=>False) ?_ ?_
  ·refine Wb ?_
   refine WP.loopM (zAt q u) (fun s f w=>match s with | (ah,bv)=>∃ (ad:Hp) (ab:Value),f 1=t∧f 12=ab∧f 43=x∧f 44=(int (u.length:Int))∧f 45=(int bv)∧Sl ad t q∧Sl ad ab ah∧Sl ad x u∧St w0 o w ad [.row ab 34 1 ah.length,.row x 34 1 u.length]) (([]:List (List Str)),0) a4 ci ?_ ?_
   ·exact ⟨ae,.slice none 0 0,cg,rfl,rfl,rfl,rfl,b,Sl.nil,d,S⟩
   intro s f w hI de c bw
   obtain ⟨ah,bv⟩:=s
   obtain ⟨ad,ab,a7,ak,a8,a9,al,b,k,d,S⟩:=hI
   refine Ws<|Wg<|La' al a9<|We<|Ws ?_
   rcases condE c with ⟨ba,c⟩ | ⟨ba,c⟩
   ·refine CT ba<|Wk<|Ws<|Wb<|Ws<|Wg<|B c fun cj ck c=>W.idx (α:=(List Str)) d a8 al el33 ck ?_
    rintro df _ cl ⟨dh,rfl,cm⟩
    refine Lq S cl<|A<|We<|Ws<|Wg<|M' a7<|M<|B c fun bb cn c=>W.call S rfl (zHN S.holds q cj b cm cn) ?_
    rintro di dj dk bc S ⟨bd,rfl,p⟩
    have b:=b.up bc
    have k:=k.up bc
    have d:=d.up bc
    refine M ?_
    refine Ex ?_
    refine Ex ?_
    refine W.alloc [(.slice none 0 0)] S zer34 ?_
    intro bx dl S
    refine W.storeSl (α:=Str) (i:=0) [bd] S p rfl rfl rfl lay34 (Nat.le_of_ble_eq_true rfl) rfl ?_
    intro dm S
    refine A<|We<|Ws<|Ws<|Wg<|M<|No<|We ?_
    rcases condE c with ⟨be,c⟩ | ⟨be,c⟩
    ·refine CT be<|Ws<|Wg<|A<|A<|We ?_
     cases c
     obtain rfl:=bw
     cases h
     refine WP.ret (Out.two rfl S rfl rfl ?_)
     exact ⟨_,rfl,Sl.nil⟩
    refine CF be<|Wk<|Ws<|Wg<|M' ak ?_
    obtain ⟨bz,am,co,_,S⟩:=S.settle (i:=0) rfl
    replace S:St w0 o _ bz [.row ab 34 1 ah.length,.row x 34 1 u.length]:=S
    have an:At bz ⟨bx,0,none⟩ [bd]:=⟨_,_,rfl,co,[],by simp⟩
    have b:=b.up am
    have k:=k.up am
    have d:=d.up am
    have p:=p.up am
    refine WL.w (R.mkFunc (vs:=[(.pointer (some ⟨bx,0,none⟩))]) rfl)<|B c fun dn cp c=>W.call S rfl (zAy S.holds ah (fun x0=>zBv x0 bb.1) k (fun hle hw x0=>fun q0 r h=>zHX hw x0 bb.1 q0 (At.mono an hle (by simp)) (p.up hle) h) cp) ?_
    rintro dp dq cr ai S rfl
    have b:=b.up ai
    have k:=k.up ai
    have d:=d.up ai
    have p:=p.up ai
    have an:=At.mono an ai (by simp)
    refine No<|We ?_
    rcases condE c with ⟨bg,c⟩ | ⟨bg,c⟩
    ·refine CT bg<|Wg<|M' ak ?_
     refine Lq S an<|W.bslice (α:=(List Str)) [bd] ([bb.1]:List (List Str)) S el33 rfl rfl rfl (by decide) (Go.Eng.encS ⟨(by rw [Sl.cellsOne p]; rfl),_,(by rw [Sl.cellsOne p]),p⟩ enc0) ?_
     intro dr ds dt bh cs S
     have b:=b.up bh
     have k:=k.up bh
     have d:=d.up bh
     refine B c fun du ct c=>W.app (α:=(List Str)) (i:=1) S el33 rfl rfl rfl k cs ct ?_
     intro cu dw cv bi cw S
     have b:=b.up bi
     have k:=k.up bi
     have d:=d.up bi
     refine A<|We<|Wg<|Lg' al rfl<|M<|We ?_
     cases c
     exact ⟨rfl,⟨cv,cu,a7,rfl,a8,a9,rfl,b,cw,d,(S.drop _ (.cons _ (.cons_cons _ (.cons_cons _ .slnil))))⟩⟩
    refine CF bg<|Wk<|Wg<|Lg' al rfl<|M<|We ?_
    cases c
    exact ⟨rfl,⟨cr,ab,a7,ak,a8,a9,rfl,b,k,d,S⟩⟩
   refine CF ba<|Wx ?_
   cases c
   obtain rfl:=bw
   exact ⟨ad,ab,ak,k,(S.drop _ (.cons_cons _ (.cons _ .slnil)))⟩
  intro f w hM
  rcases a4 with a5 | e
  ·obtain ⟨a6,aj,cx,cy,S⟩:=hM
   refine Ws<|Wg<|M' cx<|A<|A<|We ?_
   cases h
   refine WP.ret (Out.two rfl S rfl rfl ?_)
   exact ⟨_,rfl,cy⟩
  exact hM.elim
 exact hM.elim
theorem zLl {p:World} {k:Hp} (hw:Holds p k) (t:(List GField)) {ai:Value} (aj:Sl k ai t) {r:((List Str)×Bool)} (h:zHu t=some r) :
  Con Tryz.prog 69 [ai] p k (fun H' v=>∃ u1:Value,v=(.tuple ⟨[u1,(boo r.2)]⟩)∧Sl H' u1 r.1):=by
 refine CM 36 Tryz.func69 hw fun S=>?_
 have bh:=aj
 refine Ws<|Wg<|A<|A<|We<|Ws<|Wg<|M<|B h fun u a0 h=>W.call S rfl (zDx S.holds t [86,97,114,121] aj a0) ?_
 rintro v2 w3 H4 bj S c
 refine A<|We<|Ws<|Ws<|Wg<|M<|Nq c<|Ld<|We ?_
 rcases condE h with ⟨x,h⟩ | ⟨x,h⟩
 ·refine CT x<|Ws<|Wg<|A<|A<|We ?_
  cases h
  refine WP.ret (Out.two rfl S rfl rfl ?_)
  exact ⟨_,rfl,Sl.nil⟩
 refine CF x<|Wk<|Ws<|Wg<|A<|We<|Ws<|Ws<|Wg<|M<|Nq c<|M ?_
 refine We ?_
 have S:=S.addNil 9 1
 refine B h fun z a2 h=>WP.cut (fun f w=>match z with | .inl aa=>∃ (ab:Hp) (q:Value),f 5=q∧Sl ab q aa∧St p k w ab [.row q 9 1 aa.length] | .inr _=>False) ?_ ?_
 ·refine Wb ?_
  refine WP.loopM (zCP u) (fun s f w=>match s with | (ac,am)=>∃ (l:Hp) (o:Value),f 5=o∧f 13=v2∧f 14=(int (u.length:Int))∧f 15=(int am)∧Sl l o ac∧Sl l v2 u∧St p k w l [.row o 9 1 ac.length]) (([]:List Str),0) z a2 ?_ ?_
  ·exact ⟨H4,.slice none 0 0,rfl,rfl,rfl,rfl,Sl.nil,c,S⟩
  intro s f w hI bk b an
  obtain ⟨ac,am⟩:=s
  obtain ⟨l,o,ao,ap,aq,ad,d,c,S⟩:=hI
  refine Ws<|Wg<|La' ad aq<|We<|Ws ?_
  rcases condE b with ⟨ae,b⟩ | ⟨ae,b⟩
  ·refine CT ae<|Wk<|Ws<|Wb<|Ws<|Wg<|B b fun af a3 b=>W.idx (α:=Str) c ap ad el34 a3 ?_
   rintro bn _ a4 rfl
   refine Lq S a4<|A<|We<|Ws<|Ws<|Wg<|M<|B b fun ar a5 b=>W.call S rfl (zAz S.holds af a5) ?_
   rintro bo bp bq au S rfl
   have d:=d.up au
   have c:=c.up au
   refine No<|M ?_
   refine WL.grp 3 [23,24] 25 (boo ((!ar)||(af==[42]))) ?_ ?_
   ·rcases boolE (!ar) with j | j
    ·refine Gn j<|Gn j<|Pt j ?_
     exact We ⟨(orT j),ag,rfl⟩
    refine Gy j<|M<|Gy j<|Na<|Pf j ?_
    exact We ⟨(orF j),ag,rfl⟩
   intro us
   refine We ?_
   rcases condE b with ⟨ah,b⟩ | ⟨ah,b⟩
   ·refine CT ah<|Ws<|Wg<|A<|A<|We ?_
    cases b
    obtain rfl:=an
    cases h
    refine WP.ret (Out.two rfl S rfl rfl ?_)
    exact ⟨_,rfl,Sl.nil⟩
   refine CF ah<|Wk<|Wg<|M' ao<|M<|B b fun av a6 b=>W.call S rfl (zAV S.holds af a6) ?_
   rintro br bs bt aw S rfl
   have d:=d.up aw
   have c:=c.up aw
   refine W.bslice (α:=Str) [(str av)] ([av]:List Str) S el34 rfl rfl rfl (by decide) (Go.Eng.encS ⟨rfl,rfl⟩ enc0) ?_
   intro bu bv bw ax a7 S
   have d:=d.up ax
   have c:=c.up ax
   refine B b fun bx a8 b=>W.app (α:=Str) (i:=1) S el34 rfl rfl rfl d a7 a8 ?_
   intro a9 bz ba ay bb S
   have d:=d.up ay
   have c:=c.up ay
   refine A<|We<|Wg<|Lg' ad rfl<|M<|We ?_
   cases b
   exact ⟨rfl,⟨ba,a9,rfl,ap,aq,rfl,bb,c,(S.drop _ (.cons _ (.cons_cons _ .slnil)))⟩⟩
  refine CF ae<|Wx ?_
  cases b
  obtain rfl:=an
  exact ⟨l,o,ao,d,S⟩
 intro f w hM
 rcases z with aa | e
 ·obtain ⟨ab,q,az,bc,S⟩:=hM
  refine Ws<|Wg<|M' az<|B h fun b0 bd h=>W.sortRow (i:=0) zHF hw S rfl rfl bc bd ?_
  intro b1 b2 b3 be S
  refine We<|Ws<|Wg<|M' az<|B h fun b4 bf h=>W.compactRow (i:=0) zF9 hw S rfl rfl be bf ?_
  intro b5 b6 b7 b8 bg S
  refine A<|A<|We ?_
  cases h
  refine WP.ret (Out.two rfl S rfl rfl ?_)
  exact ⟨_,rfl,bg⟩
 exact hM.elim
theorem zK3 {w0:World} {p:Hp} (hw:Holds w0 p) (c:GRequest) (b:GResponse) (d:Int) (j:Int) {u:Value} {q:Value} (ac:Sl p u c.fFields) (x:Sl p q b.fFields) {r:(GEntry×(List GAxis))} (h:zHl c b d j=some r) :
  Con Tryz.prog 31 [(agg [(str c.fMethod),(str c.fTarget),(int c.fMinor),u,(str c.fBody)]),(agg [(int b.fMinor),(int b.fStatus),(str b.fReason),q,(str b.fBody)]),(int d),(int j)] w0 p (fun H' v=>∃ u1 u2 u3 u4 u5:Value,v=(.tuple ⟨[(agg [u1,u2,u3,(str r.1.fReason),u4,(str r.1.fBody),(int r.1.fRequested),(int r.1.fReceived)]),u5]⟩)∧Sl H' u1 r.1.fKeys∧Sl H' u2 r.1.fVary∧Sl H' u3 r.1.fSnapshot∧Sl H' u4 r.1.fFields∧Sl H' u5 r.2):=by
 refine CM 62 Tryz.func31 hw fun S=>?_
 refine Ws<|Wg ?_
 refine W.box [(str c.fMethod),(str c.fTarget),(int c.fMinor),u,(str c.fBody)] S rfl rfl ?_
 intro b1 w2 S
 refine W.box [(int b.fMinor),(int b.fStatus),(str b.fReason),q,(str b.fBody)] S rfl rfl ?_
 intro b3 w4 S
 refine W.alloc [(.slice none 0 0),(.slice none 0 0),(.slice none 0 0),(str []),(.slice none 0 0),(str []),(int 0),(int 0)] S zer36 ?_
 intro b5 w6 S
 refine A<|We<|Ws<|B h fun r7 bc h=>WP.cut (fun f w=>∃ (am:Hp) (ay:Nat) (k:Value),f 4=(ptr b1 0)∧f 5=(ptr b3 0)∧f 8=(ptr b5 0)∧f 10=(ptr ay 0)∧Sl am k r7∧Sl am q b.fFields∧Sl am u c.fFields∧St w0 p w am [.box ay 36 [(.slice none 0 0),(.slice none 0 0),(.slice none 0 0),(str b.fReason),k,(str b.fBody),(int d),(int j)],.box b5 36 [(.slice none 0 0),(.slice none 0 0),(.slice none 0 0),(str []),(.slice none 0 0),(str []),(int 0),(int 0)],.box b3 54 [(int b.fMinor),(int b.fStatus),(str b.fReason),q,(str b.fBody)],.box b1 52 [(str c.fMethod),(str c.fTarget),(int c.fMinor),u,(str c.fBody)]]) ?_ ?_
 ·refine WP.drawC (Cl w0 p p [.box b5 36 [(.slice none 0 0),(.slice none 0 0),(.slice none 0 0),(str []),(.slice none 0 0),(str []),(int 0),(int 0)],.box b3 54 [(int b.fMinor),(int b.fStatus),(str b.fReason),q,(str b.fBody)],.box b1 52 [(str c.fMethod),(str c.fTarget),(int c.fMinor),u,(str c.fBody)]]) kr 12 rfl (bm 12 0) rfl ?_
  have S:=S.drew
  refine Ct 0 12 1 rfl (fun _ _=>(R.fieldB rfl zPO)) ?_
  refine Ct 1 12 3 rfl (fun w hw=>by obtain ⟨_,hq,S⟩:=hw; exact (R.loadB (i:=1) (v:=str b.fReason) S rfl rfl lay9 rfl)) ?_
  refine Ct 2 12 7 rfl (fun _ _=>(R.fieldB rfl zPn)) ?_
  refine Ct 3 12 15 rfl (fun w hw=>by obtain ⟨_,hq,S⟩:=hw; exact (R.loadB (i:=1) (v:=q) S rfl rfl lay26 rfl)) ?_
  refine Ct 5 12 47 rfl (fun _ _=>(R.fieldB rfl zPY)) ?_
  refine Ct 6 12 111 rfl (fun w hw=>by obtain ⟨_,hq,S⟩:=hw; exact (R.loadB (i:=1) (v:=str b.fBody) S rfl rfl lay9 rfl)) ?_
  refine Ct 7 12 239 rfl (fun _ _=>(R.mv (v:=int d) rfl)) ?_
  refine Ct 8 12 495 rfl (fun _ _=>(R.mv (v:=int j) rfl)) ?_
  refine Cx [4,10] ⟨p,lr,S.drop _ (.cons_cons _ (.cons_cons _ (.cons_cons _ .slnil)))⟩ (allS ?_ (all1 ?_))
  ·refine Nx 12 511 rfl<|W.call S rfl (zJI S.holds b.fFields x bc) ?_
   rintro ad bu an ao S az
   have ac:=ac.up ao
   have x:=x.up ao
   refine We ?_
   refine Ct 9 12 1023 rfl (fun _ _=>(R.build [(3,(str b.fReason)),(4,ad),(5,(str b.fBody)),(6,(int d)),(7,(int j))] [(.slice none 0 0),(.slice none 0 0),(.slice none 0 0),(str b.fReason),ad,(str b.fBody),(int d),(int j)] bp36 zer36 kr (by obtain ⟨_,_,rfl,_⟩:=az; rfl))) ?_
   refine Cx [10] ⟨an,ao,S.drop _ (.cons_cons _ (.cons_cons _ (.cons_cons _ .slnil)))⟩ (all1 ?_)
   refine Nx 12 2047 rfl ?_
   refine W.alloc [(.slice none 0 0),(.slice none 0 0),(.slice none 0 0),(str []),(.slice none 0 0),(str []),(int 0),(int 0)] S zer36 ?_
   intro bd bv S
   refine We ?_
   refine Cx [11] ⟨an,ao,S.drop _ (.cons _ (.cons_cons _ (.cons_cons _ (.cons_cons _ .slnil))))⟩ (all1 ?_)
   refine Nx 12 4095 rfl ?_
   refine W.store (i:=0) [(.slice none 0 0),(.slice none 0 0),(.slice none 0 0),(str b.fReason),ad,(str b.fBody),(int d),(int j)] S rfl rfl rfl lay36 rfl (AllOne.all (l:=[(.slice none 0 0),(.slice none 0 0),(.slice none 0 0),(str b.fReason),ad,(str b.fBody),(int d),(int j)]) (.cons rfl (.cons rfl (.cons rfl (.cons rfl (.cons (Sl.oneC az) (.cons rfl (.cons rfl (.cons rfl .nil))))))))) (Nat.le_of_ble_eq_true rfl) rfl ?_
   intro bw S
   refine We<|WC.done ⟨an,ao,S.drop _ (.cons _ (.cons_cons _ (.cons_cons _ (.cons_cons _ .slnil))))⟩ kr ?_
   have S3:=S
   replace S3:=S3.front 3 rfl
   replace S3:=S3.front 3 rfl
   replace S3:=S3.front 3 rfl
   replace S3:=S3.front 3 rfl
   replace S3:St w0 p _ an [.box bd 36 [(.slice none 0 0),(.slice none 0 0),(.slice none 0 0),(str b.fReason),ad,(str b.fBody),(int d),(int j)],.box b5 36 [(.slice none 0 0),(.slice none 0 0),(.slice none 0 0),(str []),(.slice none 0 0),(str []),(int 0),(int 0)],.box b3 54 [(int b.fMinor),(int b.fStatus),(str b.fReason),q,(str b.fBody)],.box b1 52 [(str c.fMethod),(str c.fTarget),(int c.fMinor),u,(str c.fBody)]]:=S3.drop _ (.cons_cons _ (.cons_cons _ (.cons_cons _ (.cons_cons _ .slnil))))
   exact ⟨an,bd,ad,rfl,rfl,rfl,rfl,az,x,ac,S3⟩
  refine Nx 12 1519 rfl ?_
  refine W.alloc [(.slice none 0 0),(.slice none 0 0),(.slice none 0 0),(str []),(.slice none 0 0),(str []),(int 0),(int 0)] S zer36 ?_
  intro be bx S
  refine We ?_
  refine Cx [4] ⟨p,lr,S.drop _ (.cons _ (.cons_cons _ (.cons_cons _ (.cons_cons _ .slnil))))⟩ (all1 ?_)
  refine Nx 12 1535 rfl<|W.call S rfl (zJI S.holds b.fFields x bc) ?_
  rintro ae bz ar au S a0
  have ac:=ac.up au
  have x:=x.up au
  refine We ?_
  refine Ct 9 12 2047 rfl (fun _ _=>(R.build [(3,(str b.fReason)),(4,ae),(5,(str b.fBody)),(6,(int d)),(7,(int j))] [(.slice none 0 0),(.slice none 0 0),(.slice none 0 0),(str b.fReason),ae,(str b.fBody),(int d),(int j)] bp36 zer36 kr (by obtain ⟨_,_,rfl,_⟩:=a0; rfl))) ?_
  refine Cx [11] ⟨ar,au,S.drop _ (.cons _ (.cons_cons _ (.cons_cons _ (.cons_cons _ .slnil))))⟩ (all1 ?_)
  refine Nx 12 4095 rfl ?_
  refine W.store (i:=0) [(.slice none 0 0),(.slice none 0 0),(.slice none 0 0),(str b.fReason),ae,(str b.fBody),(int d),(int j)] S rfl rfl rfl lay36 rfl (AllOne.all (l:=[(.slice none 0 0),(.slice none 0 0),(.slice none 0 0),(str b.fReason),ae,(str b.fBody),(int d),(int j)]) (.cons rfl (.cons rfl (.cons rfl (.cons rfl (.cons (Sl.oneC a0) (.cons rfl (.cons rfl (.cons rfl .nil))))))))) (Nat.le_of_ble_eq_true rfl) rfl ?_
  intro b0 S
  refine We<|WC.done ⟨ar,au,S.drop _ (.cons _ (.cons_cons _ (.cons_cons _ (.cons_cons _ .slnil))))⟩ kr ?_
  have S3:=S
  replace S3:=S3.front 3 rfl
  replace S3:=S3.front 3 rfl
  replace S3:=S3.front 3 rfl
  replace S3:=S3.front 3 rfl
  replace S3:St w0 p _ ar [.box be 36 [(.slice none 0 0),(.slice none 0 0),(.slice none 0 0),(str b.fReason),ae,(str b.fBody),(int d),(int j)],.box b5 36 [(.slice none 0 0),(.slice none 0 0),(.slice none 0 0),(str []),(.slice none 0 0),(str []),(int 0),(int 0)],.box b3 54 [(int b.fMinor),(int b.fStatus),(str b.fReason),q,(str b.fBody)],.box b1 52 [(str c.fMethod),(str c.fTarget),(int c.fMinor),u,(str c.fBody)]]:=S3.drop _ (.cons_cons _ (.cons_cons _ (.cons_cons _ (.cons_cons _ .slnil))))
  exact ⟨ar,be,ae,rfl,rfl,rfl,rfl,a0,x,ac,S3⟩
 rintro f w ⟨am,ay,k,bi,a1,av,af,o,z,aa,S⟩
 refine Ws<|Wg<|Fb' a1 ?_
 refine Lo 2 S<|B h fun a2 bj h=>W.call S rfl (zJB S.holds b.fFields z bj) ?_
 rintro b2 b4 b6 a3 S ⟨b7,rfl,aw⟩
 have z:=z.up a3
 have o:=o.up a3
 have aa:=aa.up a3
 refine M ?_
 refine Ex ?_
 refine Ex<|A<|A<|We<|Ws<|Wg<|Fb' a1 ?_
 refine Lo 2 S<|M<|B h fun bk bn h=>W.call S rfl (zIM S.holds b.fFields a2.1 z aw bn) ?_
 rintro b8 b9 ca ax S ⟨ap,rfl,a4⟩
 have z:=z.up ax
 have aw:=aw.up ax
 have o:=o.up ax
 have aa:=aa.up ax
 refine M ?_
 refine Ex ?_
 refine Ex<|A<|A<|We<|Ws<|Ws<|Wg<|M<|Le<|M ?_
 refine WL.grp 3 [41,42] 43 (boo ((a2.2==0)&&(bk.2==0))) ?_ ?_
 ·rcases boolE (a2.2==0) with t | t
  ·refine Gy t<|M<|Gy t<|Le<|Pt t ?_
   exact We ⟨(andT t),ag,rfl⟩
  refine Gn t<|Gn t<|Pf t ?_
  exact We ⟨(andF t),ag,rfl⟩
 intro us
 refine We ?_
 rcases condE h with ⟨a5,h⟩ | ⟨a5,h⟩
 ·refine CT a5<|Ws<|Wg<|M<|Fb' af ?_
  refine W.storeSl (α:=(List Str)) (i:=0) [ap,(.slice none 0 0),(.slice none 0 0),(str b.fReason),k,(str b.fBody),(int d),(int j)] S a4 rfl rfl rfl lay33 (Nat.le_of_ble_eq_true rfl) rfl ?_
  intro cb S
  refine We<|Ws<|Wg ?_
  refine WL.w (R.loadBN (i:=0) (vs:=[ap,(.slice none 0 0),(.slice none 0 0),(str b.fReason),k,(str b.fBody),(int d),(int j)]) S af rfl lay36 rfl rfl)<|M ?_
  refine W.store (i:=1) [ap,(.slice none 0 0),(.slice none 0 0),(str b.fReason),k,(str b.fBody),(int d),(int j)] S av rfl rfl lay36 rfl (AllOne.all (l:=[ap,(.slice none 0 0),(.slice none 0 0),(str b.fReason),k,(str b.fBody),(int d),(int j)]) (.cons (Sl.oneC a4) (.cons rfl (.cons rfl (.cons rfl (.cons (Sl.oneC o) (.cons rfl (.cons rfl (.cons rfl .nil))))))))) (Nat.le_of_ble_eq_true rfl) rfl ?_
  intro cc S
  refine A<|We ?_
  cases h
  refine WP.ret (Out.two rfl S (Res.cellB (i:=1) (cs:=[ap,(.slice none 0 0),(.slice none 0 0),(str b.fReason),k,(str b.fBody),(int d),(int j)]) S av rfl lay36 rfl rfl) rfl ?_)
  exact ⟨_,_,_,_,_,rfl,a4,Sl.nil,Sl.nil,o,aw⟩
 refine CF a5<|Wk<|Ws<|Wg<|Fb' a1 ?_
 refine Lo 2 S<|B h fun bo bp h=>W.call S rfl (zLl S.holds b.fFields z bp) ?_
 rintro cd ce cf bf S ⟨ah,rfl,ai⟩
 have o:=o.up bf
 have aa:=aa.up bf
 refine M ?_
 refine Ex ?_
 refine Ex<|Fb' af ?_
 refine W.storeSl (α:=Str) (i:=0) [(.slice none 0 0),ah,(.slice none 0 0),(str b.fReason),k,(str b.fBody),(int d),(int j)] S ai rfl rfl rfl lay34 (Nat.le_of_ble_eq_true rfl) rfl ?_
 intro cg S
 refine We<|Ws<|Wg<|Fb' af ?_
 refine Lo 0 S<|Fb' bi ?_
 refine Lo 3 S<|B h fun ch bq h=>W.call S rfl (zG9 S.holds bo.1 c.fFields ai aa bq) ?_
 rintro aq ci cj bg S a6
 have ai:=ai.up bg
 have o:=o.up bg
 refine Fb' af ?_
 refine W.storeSl (α:=Str) (i:=0) [(.slice none 0 0),ah,aq,(str b.fReason),k,(str b.fBody),(int d),(int j)] S a6 rfl rfl rfl lay34 (Nat.le_of_ble_eq_true rfl) rfl ?_
 intro ck S
 refine We<|Ws<|Wg ?_
 refine WL.w (R.loadBN (i:=0) (vs:=[(.slice none 0 0),ah,aq,(str b.fReason),k,(str b.fBody),(int d),(int j)]) S af rfl lay36 rfl rfl) ?_
 refine W.store (i:=1) [(.slice none 0 0),ah,aq,(str b.fReason),k,(str b.fBody),(int d),(int j)] S av rfl rfl lay36 rfl (AllOne.all (l:=[(.slice none 0 0),ah,aq,(str b.fReason),k,(str b.fBody),(int d),(int j)]) (.cons rfl (.cons (Sl.oneC ai) (.cons (Sl.oneC a6) (.cons rfl (.cons (Sl.oneC o) (.cons rfl (.cons rfl (.cons rfl .nil))))))))) (Nat.le_of_ble_eq_true rfl) rfl ?_
 intro cl S
 refine A<|We ?_
 cases h
 refine WP.ret (Out.two rfl S (Res.cellB (i:=1) (cs:=[(.slice none 0 0),ah,aq,(str b.fReason),k,(str b.fBody),(int d),(int j)]) S av rfl lay36 rfl rfl) rfl ?_)
 exact ⟨_,_,_,_,_,rfl,Sl.nil,ai,a6,o,Sl.nil⟩
theorem zGA {w0:World} {H0:Hp} (hw:Holds w0 H0) (bi:GTable) (b:GRequest) (d:GResponse) (bo:Bool) {au:Value} {av:Value} {aw:Value} {ax:Value} (ab:Sl H0 au bi.fAxes) (ac:Sl H0 av bi.fEntries) (k:Sl H0 aw b.fFields) (ah:Sl H0 ax d.fFields) {r:Bool} (h:zCj bi b d bo=some r) :
  Cb Tryz.prog 7 [(agg [au,av]),(agg [(str b.fMethod),(str b.fTarget),(int b.fMinor),aw,(str b.fBody)]),(agg [(int d.fMinor),(int d.fStatus),(str d.fReason),ax,(str d.fBody)]),(boo bo)] w0 H0 r:=by
 refine CM 109 Tryz.func7 hw fun S=>?_
 refine Ws<|Wg ?_
 refine W.box [au,av] S rfl rfl ?_
 intro b1 w2 S
 refine W.box [(str b.fMethod),(str b.fTarget),(int b.fMinor),aw,(str b.fBody)] S rfl rfl ?_
 intro b3 w4 S
 refine W.box [(int d.fMinor),(int d.fStatus),(str d.fReason),ax,(str d.fBody)] S rfl rfl ?_
 intro b5 w6 S
 refine A<|We<|Ws<|Ws<|Wg ?_
 refine WL.w (R.loadBN (i:=2) (vs:=[au,av]) S rfl rfl lay25 rfl rfl)<|B h fun r7 cn h=>W.call S rfl (zK6 S.holds bi ab ac cn) ?_
 rintro v8 w9 b7 bp S rfl
 have ab:=ab.up bp
 have ac:=ac.up bp
 have k:=k.up bp
 have ah:=ah.up bp
 refine No<|M<|B h fun b8 ay h=>WL.grpw 4 [22,23,24] 25 (boo b8) (fun w=>∃ H':Hp,b7.le H'∧St w0 H0 w H' [.box b5 54 [(int d.fMinor),(int d.fStatus),(str d.fReason),ax,(str d.fBody)],.box b3 52 [(str b.fMethod),(str b.fTarget),(int b.fMinor),aw,(str b.fBody)],.box b1 25 [au,av]]) ?_ ?_
 ·rcases boolE (!r7) with aj | aj
  ·replace ay:=condT ay aj
   refine Gn aj<|Gn aj<|Gn aj<|Pt aj ?_
   exact We ⟨(ob ay),ag,⟨b7,lr,S⟩⟩
  replace ay:=condF ay aj
  refine Gy aj ?_
  refine WL.w (R.loadBN (i:=1) (vs:=[(str b.fMethod),(str b.fTarget),(int b.fMinor),aw,(str b.fBody)]) S rfl rfl lay52 rfl rfl)<|Gy aj<|B ay fun dq co ay=>W.call S rfl (zJv S.holds b k co) ?_
  rintro dr ds cp bj S rfl
  have ab:=ab.up bj
  have ac:=ac.up bj
  have k:=k.up bj
  have ah:=ah.up bj
  refine Gy aj<|No<|Pf aj ?_
  exact We ⟨(ob ay),ag,⟨cp,bj,S⟩⟩
 intro us dt ⟨b9,bq,S⟩
 have ab:=ab.up bq
 have ac:=ac.up bq
 have k:=k.up bq
 have ah:=ah.up bq
 refine M<|B h fun cq az h=>WL.grpw 4 [27,28,29] 30 (boo cq) (fun w=>∃ H':Hp,b9.le H'∧St w0 H0 w H' [.box b5 54 [(int d.fMinor),(int d.fStatus),(str d.fReason),ax,(str d.fBody)],.box b3 52 [(str b.fMethod),(str b.fTarget),(int b.fMinor),aw,(str b.fBody)],.box b1 25 [au,av]]) ?_ ?_
 ·rcases boolE b8 with ak | ak
  ·replace az:=condT az ak
   refine Gn ak<|Gn ak<|Gn ak<|Pt ak ?_
   exact We ⟨(ob az),ag,⟨b9,lr,S⟩⟩
  replace az:=condF az ak
  refine Gy ak ?_
  refine WL.w (R.loadBN (i:=0) (vs:=[(int d.fMinor),(int d.fStatus),(str d.fReason),ax,(str d.fBody)]) S rfl rfl lay54 rfl rfl)<|Gy ak<|B az fun du cr az=>W.call S rfl (zJV S.holds d ah cr) ?_
  rintro dw dx cs bk S rfl
  have ab:=ab.up bk
  have ac:=ac.up bk
  have k:=k.up bk
  have ah:=ah.up bk
  refine Gy ak<|No<|Pf ak ?_
  exact We ⟨(ob az),ag,⟨cs,bk,S⟩⟩
 intro us dy ⟨dz,br,S⟩
 have ab:=ab.up br
 have ac:=ac.up br
 have k:=k.up br
 have ah:=ah.up br
 refine We ?_
 rcases condE h with ⟨bw,h⟩ | ⟨bw,h⟩
 ·refine CT bw<|Ws<|Wg<|A<|We ?_
  exact WP.ret (Rb h S)
 refine CF bw<|Wk<|Ws<|Wg ?_
 refine WL.w (R.loadBN (i:=1) (vs:=[(str b.fMethod),(str b.fTarget),(int b.fMinor),aw,(str b.fBody)]) S rfl rfl lay52 rfl rfl) ?_
 refine WL.w (R.loadBN (i:=0) (vs:=[(int d.fMinor),(int d.fStatus),(str d.fReason),ax,(str d.fBody)]) S rfl rfl lay54 rfl rfl)<|B h fun c ct h=>W.call S rfl (zK3 S.holds b d 0 0 k ah ct) ?_
 rintro d0 d1 d2 bx S ⟨a6,a7,a8,a9,ca,rfl,o,u,v,x,p⟩
 have ab:=ab.up bx
 have ac:=ac.up bx
 have k:=k.up bx
 refine M ?_
 refine Ex ?_
 refine Ex ?_
 refine W.alloc [(.slice none 0 0),(.slice none 0 0),(.slice none 0 0),(str []),(.slice none 0 0),(str []),(int 0),(int 0)] S zer36 ?_
 intro bs d3 S
 refine W.store (i:=0) [a6,a7,a8,(str c.1.fReason),a9,(str c.1.fBody),(int c.1.fRequested),(int c.1.fReceived)] S rfl rfl rfl lay36 rfl (AllOne.all (l:=[a6,a7,a8,(str c.1.fReason),a9,(str c.1.fBody),(int c.1.fRequested),(int c.1.fReceived)]) (.cons (Sl.oneC o) (.cons (Sl.oneC u) (.cons (Sl.oneC v) (.cons rfl (.cons (Sl.oneC x) (.cons rfl (.cons rfl (.cons rfl .nil))))))))) (Nat.le_of_ble_eq_true rfl) rfl ?_
 intro d4 S
 refine A<|We<|Ws<|Wg ?_
 refine WL.w (R.loadBN (i:=3) (vs:=[au,av]) S rfl rfl lay25 rfl rfl) ?_
 refine WL.w (R.loadBN (i:=0) (vs:=[a6,a7,a8,(str c.1.fReason),a9,(str c.1.fBody),(int c.1.fRequested),(int c.1.fReceived)]) S rfl rfl lay36 rfl rfl)<|M<|B h fun ap cu h=>W.call S rfl (zHe S.holds bi c.1 c.2 64 ab ac o u v x p cu) ?_
 rintro d5 d6 d7 bg S ⟨al,am,rfl,z,q⟩
 have k:=k.up bg
 have o:=o.up bg
 have u:=u.up bg
 have v:=v.up bg
 have x:=x.up bg
 have p:=p.up bg
 refine W.alloc [(.slice none 0 0),(.slice none 0 0)] S zer25 ?_
 intro ba d8 S
 refine W.store (i:=0) [al,am] S rfl rfl rfl lay25 rfl (AllOne.all (l:=[al,am]) (.cons (Sl.oneC z) (.cons (Sl.oneC q) .nil))) (Nat.le_of_ble_eq_true rfl) rfl ?_
 intro d9 S
 refine We<|Ws<|Wg ?_
 refine WL.w (R.loadBN (i:=0) (vs:=[al,am]) S rfl rfl lay25 rfl rfl)<|Fb ?_
 refine Lo 3 S<|M<|B h fun ad cv h=>W.call S rfl (zIb S.holds ap b.fFields bo z q k cv) ?_
 rintro ea eb cb a0 S rfl
 have k:=k.up a0
 have o:=o.up a0
 have u:=u.up a0
 have v:=v.up a0
 have x:=x.up a0
 have p:=p.up a0
 have z:=z.up a0
 have q:=q.up a0
 refine M ?_
 refine Ex ?_
 refine Ex<|A<|A<|We<|Ws<|Ws<|Wg<|M<|Nq p<|Le ?_
 refine We ?_
 rcases condE h with ⟨bz,h⟩ | ⟨bz,h⟩
 ·refine CT bz<|Ws<|Wg<|M<|M ?_
  refine WL.grp 7 [54,55,56,57,58,59] 60 (boo (ad.2&&(ad.1==(wr ((ap.fEntries.length:Int) - 1))))) ?_ ?_
  ·rcases boolE ad.2 with aa | aa
   ·refine Gy aa<|M<|Gy aa<|Fb<|Gy aa ?_
    refine Lo 0 S<|Gy aa<|Nq q<|Gy aa<|Lh<|Gy aa<|Le ?_
    refine Pt aa ?_
    exact We ⟨(andT aa),ag,rfl⟩
   refine Gn aa<|Gn aa<|Gn aa<|Gn aa<|Gn aa<|Gn aa<|Pf aa ?_
   exact We ⟨(andF aa),ag,rfl⟩
  intro us
  refine M<|B h fun cw a1 h=>WL.grpw 2 [62] 63 (boo cw) (fun w=>∃ H':Hp,cb.le H'∧St w0 H0 w H' [.box ba 25 [al,am],.box bs 36 [a6,a7,a8,(str c.1.fReason),a9,(str c.1.fBody),(int c.1.fRequested),(int c.1.fReceived)],.box b5 54 [(int d.fMinor),(int d.fStatus),(str d.fReason),ax,(str d.fBody)],.box b3 52 [(str b.fMethod),(str b.fTarget),(int b.fMinor),aw,(str b.fBody)],.box b1 25 [au,av]]) ?_ ?_
  ·rcases boolE (ad.2&&(ad.1==(wr ((ap.fEntries.length:Int) - 1)))) with bb | bb
   ·replace a1:=condT a1 bb
    refine Gy bb<|B a1 fun ec cx a1=>W.call S rfl (zH6 S.holds  cx) ?_
    rintro ed ee cy aq S rfl
    have k:=k.up aq
    have o:=o.up aq
    have u:=u.up aq
    have v:=v.up aq
    have x:=x.up aq
    have p:=p.up aq
    have z:=z.up aq
    have q:=q.up aq
    refine Pt bb ?_
    exact We ⟨(ob a1),ag,⟨cy,aq,S⟩⟩
   replace a1:=condF a1 bb
   refine Gn bb<|Pf bb ?_
   exact We ⟨(ob a1),ag,⟨cb,lr,S⟩⟩
  intro us ef ⟨eg,a2,S⟩
  have k:=k.up a2
  have o:=o.up a2
  have u:=u.up a2
  have v:=v.up a2
  have x:=x.up a2
  have p:=p.up a2
  have z:=z.up a2
  have q:=q.up a2
  refine A<|We ?_
  exact WP.ret (Rb h S)
 refine CF bz<|Wk<|Ws<|Wg<|M<|Fb ?_
 refine Lo 3 S<|M<|B h fun ai cz h=>W.call S rfl (zK8 S.holds c.2 b.fFields bo p k cz) ?_
 rintro eh ei c0 bc S ⟨cc,rfl,a3⟩
 have o:=o.up bc
 have u:=u.up bc
 have v:=v.up bc
 have x:=x.up bc
 have p:=p.up bc
 have z:=z.up bc
 have q:=q.up bc
 refine M ?_
 refine Ex ?_
 refine Ex<|A<|A<|We<|Ws<|Wg<|A<|We<|Ws<|Ws ?_
 refine Wg<|A<|We<|B h fun bn c1 h=>WP.cut (fun f w=>∃ (bh:Hp),f 11=(ptr ba 0)∧f 12=(int ad.1)∧f 13=(boo ad.2)∧f 15=(boo ai.2)∧f 16=(boo bn)∧Sl bh al ap.fAxes∧Sl bh am ap.fEntries∧St w0 H0 w bh [.box ba 25 [al,am]]) ?_ ?_
 ·refine Wb ?_
  refine WP.loopM (zAi c ai) (fun s f w=>match s with | (b0,cd)=>∃ (af:Hp),f 9=(ptr bs 0)∧f 10=ca∧f 11=(ptr ba 0)∧f 12=(int ad.1)∧f 13=(boo ad.2)∧f 14=cc∧f 15=(boo ai.2)∧f 16=(boo b0)∧f 17=(int cd)∧Sl af ca c.2∧Sl af cc ai.1∧Sl af al ap.fAxes∧Sl af am ap.fEntries∧Sl af a6 c.1.fKeys∧Sl af a7 c.1.fVary∧Sl af a8 c.1.fSnapshot∧Sl af a9 c.1.fFields∧St w0 H0 w af [.box ba 25 [al,am],.box bs 36 [a6,a7,a8,(str c.1.fReason),a9,(str c.1.fBody),(int c.1.fRequested),(int c.1.fReceived)]]) (false,0) bn c1 ?_ ?_
  ·exact ⟨c0,rfl,rfl,rfl,rfl,rfl,rfl,rfl,rfl,rfl,p,a3,z,q,o,u,v,x,(S.drop _ (.cons_cons _ (.cons_cons _ (.cons _ (.cons _ (.cons _ .slnil))))))⟩
  intro s f w hI ej bd c2
  obtain ⟨b0,cd⟩:=s
  obtain ⟨af,b2,ce,cf,cg,ch,ci,cj,ck,b4,p,a3,z,q,o,u,v,x,S⟩:=hI
  refine Ws<|Ws<|Wg<|M' b4<|Fb' b2 ?_
  refine Lo 1 S<|Nq o<|La<|We ?_
  rcases condE bd with ⟨b6,bd⟩ | ⟨b6,bd⟩
  ·refine CT b6<|Wk<|Ws<|Wb<|Wg<|M' ck<|M<|B bd fun c3 an bd=>WL.grpw 9 [81,82,83,84,85,86,87,88] 89 (boo c3) (fun w=>∃ H':Hp,af.le H'∧St w0 H0 w H' [.box ba 25 [al,am],.box bs 36 [a6,a7,a8,(str c.1.fReason),a9,(str c.1.fBody),(int c.1.fRequested),(int c.1.fReceived)]]) ?_ ?_
   ·rcases boolE b0 with t | t
    ·replace an:=condT an t
     refine Gn t<|Gn t<|Gn t<|Gn t<|Gn t<|Gn t<|Gn t<|Gn t<|Pt t ?_
     exact We ⟨(ob an),ag,⟨af,lr,S⟩⟩
    replace an:=condF an t
    refine Gy t<|M' ce<|Gy t<|Fb' b2<|Gy t ?_
    refine Lo 1 S<|Gy t<|M' b4<|Gy t<|B an fun c4 c5 an=>W.idx (α:=(List Str)) o rfl rfl el33 c5 ?_
    rintro ek _ c6 ⟨el,rfl,c7⟩
    refine Gy t ?_
    refine Lq S c6<|Gy t<|M' ci<|Gy t<|B an fun em c8 an=>W.call S rfl (zJa S.holds c.2 c4 ai.1 p c7 a3 c8) ?_
    rintro en eo c9 ar S rfl
    have p:=p.up ar
    have a3:=a3.up ar
    have o:=o.up ar
    have z:=z.up ar
    have q:=q.up ar
    have u:=u.up ar
    have v:=v.up ar
    have x:=x.up ar
    refine Pf t ?_
    exact We ⟨(ob an),ag,⟨c9,ar,S⟩⟩
   intro us ep ⟨da,a4,S⟩
   have p:=p.up a4
   have a3:=a3.up a4
   have o:=o.up a4
   have z:=z.up a4
   have q:=q.up a4
   have u:=u.up a4
   have v:=v.up a4
   have x:=x.up a4
   refine A<|We<|Wg<|M' b4<|Lg<|A<|We ?_
   cases bd
   exact ⟨rfl,⟨da,b2,ce,cf,cg,ch,ci,cj,rfl,rfl,p,a3,z,q,o,u,v,x,S⟩⟩
  refine CF b6<|Wx ?_
  cases bd
  obtain rfl:=c2
  exact ⟨af,cf,cg,ch,cj,ck,z,q,(S.drop _ (.cons_cons _ (.cons _ .slnil)))⟩
 rintro f w ⟨bh,db,dc,dd,cl,de,z,q,S⟩
 refine Ws<|Wg<|M' dd<|M' cl<|Ng<|M ?_
 refine WL.grp 12 [94,95,96,97,98,99,100,101,102,103,104] 105 (boo ((ad.2==ai.2)&&((ad.1==(wr ((ap.fEntries.length:Int) - 1)))==(ai.2&&bn)))) ?_ ?_
 ·rcases boolE (ad.2==ai.2) with j | j
  ·refine Gy j<|M' dc<|Gy j<|Fb' db<|Gy j ?_
   refine Lo 0 S<|Gy j<|Nq q<|Gy j<|Lh<|Gy j<|Le ?_
   refine Gy j<|M' cl<|Gy j<|M ?_
   refine WL.grp 2 [102] 103 (boo (ai.2&&bn)) ?_ ?_
   ·rcases boolE ai.2 with be | be
    ·refine Gy be<|M' de<|Gy j<|Pt be ?_
     exact We ⟨(andT be),ag,rfl⟩
    refine Gn be<|Gy j<|Pf be ?_
    exact We ⟨(andF be),ag,rfl⟩
   intro us
   refine Gy j<|Ng<|Pt j ?_
   exact We ⟨(andT j),ag,rfl⟩
  refine Gn j<|Gn j<|Gn j<|Gn j<|Gn j<|Gn j<|Gn j<|Gn j<|WL.gund rfl rfl<|Gn j<|Gn j<|Pf j ?_
  exact We ⟨(andF j),ag,rfl⟩
 intro us
 refine M<|B h fun df a5 h=>WL.grpw 2 [107] 108 (boo df) (fun w=>∃ H':Hp,bh.le H'∧St w0 H0 w H' [.box ba 25 [al,am]]) ?_ ?_
 ·rcases boolE ((ad.2==ai.2)&&((ad.1==(wr ((ap.fEntries.length:Int) - 1)))==(ai.2&&bn))) with bf | bf
  ·replace a5:=condT a5 bf
   refine Gy bf<|B a5 fun eq dh a5=>W.call S rfl (zH6 S.holds  dh) ?_
   rintro er es di dj S rfl
   refine Pt bf ?_
   exact We ⟨(ob a5),ag,⟨di,dj,S⟩⟩
  replace a5:=condF a5 bf
  refine Gn bf<|Pf bf ?_
  exact We ⟨(ob a5),ag,⟨bh,lr,S⟩⟩
 intro us et ⟨eu,ew,S⟩
 refine A<|We ?_
 exact WP.ret (Rb h S)
end Go.Proofs

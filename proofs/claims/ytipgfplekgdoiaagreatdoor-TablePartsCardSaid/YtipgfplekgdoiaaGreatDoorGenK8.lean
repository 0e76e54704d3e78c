/- A part. -/
import Derived.Test.YtipgfplekgdoiaaGreatDoorEng38
import Derived.Test.YtipgfplekgdoiaaGreatDoorEng36
import Derived.Test.YtipgfplekgdoiaaGreatDoorGenK7
namespace Go.Proofs
set_option maxHeartbeats 4000000
set_option maxRecDepth 10000
open Go.Eng Go.Eng.Pure
set_option linter.unusedVariables false
theorem zJ5 {u:World} {t:Hp} (hw:Holds u t) (b:GEntry) {l:Value} {o:Value} {p:Value} {k:Value} (c:Sl t l b.fKeys) (i:Sl t o b.fVary) (j:Sl t p b.fSnapshot) (d:Sl t k b.fFields) {r:Int} (h:zG2 b=some r) :
  Ci Tryz.prog 59 [(agg [l,o,p,(str b.fReason),k,(str b.fBody),(int b.fRequested),(int b.fReceived)])] u t r:=by
 refine CM 104 Tryz.func59 hw fun S=>?_
 refine Ws<|Wg ?_
 refine W.box [l,o,p,(str b.fReason),k,(str b.fBody),(int b.fRequested),(int b.fReceived)] S rfl rfl ?_
 intro q w2 S
 refine A<|We<|Ws<|Wg<|Fb ?_
 refine Lo 0 S<|Ns<|Lg<|Fb ?_
 refine Lo 0 S<|Ns<|Lg ?_
 refine A<|We<|Ws<|Ws<|Wg<|A<|We<|B h fun au br h=>WP.cut (fun f w=>∃ (H9:Hp),f 1=(ptr q 0)∧f 3=(int au)∧Sl H9 l b.fKeys∧Sl H9 o b.fVary∧Sl H9 p b.fSnapshot∧Sl H9 k b.fFields∧St u t w H9 [.box q 36 [l,o,p,(str b.fReason),k,(str b.fBody),(int b.fRequested),(int b.fReceived)]]) ?_ ?_
 ·refine Wb ?_
  refine WP.loopM (zEu b) (fun s f w=>match s with | (a8,a9)=>∃ (H3:Hp),f 1=(ptr q 0)∧f 3=(int a8)∧f 4=(int a9)∧Sl H3 l b.fKeys∧Sl H3 o b.fVary∧Sl H3 p b.fSnapshot∧Sl H3 k b.fFields∧St u t w H3 [.box q 36 [l,o,p,(str b.fReason),k,(str b.fBody),(int b.fRequested),(int b.fReceived)]]) (wr ((wr (100+(b.fReason.length:Int)))+(b.fBody.length:Int)),0) au br ?_ ?_
  ·exact ⟨t,rfl,rfl,rfl,c,i,j,d,S⟩
  intro s f w hI c0 x bs
  obtain ⟨a8,a9⟩:=s
  obtain ⟨H3,h4,h6,h8,c,i,j,d,S⟩:=hI
  refine Ws<|Ws<|Wg<|M' h8<|Fb' h4 ?_
  refine Lo 0 S<|Nq d<|La<|We ?_
  rcases condE x with ⟨av,x⟩ | ⟨av,x⟩
  ·refine CT av<|Wk<|Ws<|Wb<|WP.quiet S kr kr<|QM' h6<|QFb' h4 ?_
   refine QB 0 k<|QM' h8<|B x fun bt bu x=>WQ.idx (α:=GField) d rfl rfl el26 bu ?_
   rintro c1 _ bv rfl
   refine QFc ?_
   have bw:=At.add bv 0 (by simp)
   refine QH (str bt.fName) bw<|QNs<|QLg<|QFb' h4 ?_
   refine QB 0 k<|QM' h8<|B x fun bx bz x=>WQ.idx (α:=GField) d rfl rfl el26 bz ?_
   rintro c2 _ b0 rfl
   refine QFc ?_
   have b2:=At.add b0 1 (by simp)
   refine QH (str bx.fValue) b2<|QNs<|QLg<|QLg<|QA<|WQ.nil ?_
   intro c3 b3 b4 S
   have ⟨d,c,i,j⟩:=U4 b4 d c i j
   refine Wg<|M' h8<|Lg<|A<|We ?_
   obtain rfl:=oi x
   exact ⟨rfl,⟨b3,h4,rfl,rfl,c,i,j,d,S⟩⟩
  refine CF av<|Wx ?_
  obtain rfl:=oi x
  obtain rfl:=bs
  exact ⟨H3,h4,h6,c,i,j,d,S⟩
 rintro f w ⟨H9,b5,b6,c,i,j,d,S⟩
 refine Ws<|Ws<|Wg<|A<|We<|B h fun aw b7 h=>WP.cut (fun f w=>∃ (af:Hp),f 1=(ptr q 0)∧f 3=(int aw)∧Sl af l b.fKeys∧Sl af o b.fVary∧Sl af p b.fSnapshot∧Sl af k b.fFields∧St u t w af [.box q 36 [l,o,p,(str b.fReason),k,(str b.fBody),(int b.fRequested),(int b.fReceived)]]) ?_ ?_
 ·refine Wb ?_
  refine WP.loopM (zDh b) (fun s f w=>match s with | (ax,an)=>∃ (z:Hp),f 1=(ptr q 0)∧f 3=(int ax)∧f 5=(int an)∧Sl z l b.fKeys∧Sl z o b.fVary∧Sl z p b.fSnapshot∧Sl z k b.fFields∧St u t w z [.box q 36 [l,o,p,(str b.fReason),k,(str b.fBody),(int b.fRequested),(int b.fReceived)]]) (au,0) aw b7 ?_ ?_
  ·exact ⟨H9,b5,b6,rfl,c,i,j,d,S⟩
  intro s f w hI c4 ah b8
  obtain ⟨ax,an⟩:=s
  obtain ⟨z,ay,bb,bc,c,i,j,d,S⟩:=hI
  refine Ws<|Ws<|Wg<|M' bc<|Fb' ay ?_
  refine Lo 0 S<|Nq c<|La<|We ?_
  rcases condE ah with ⟨az,ah⟩ | ⟨az,ah⟩
  ·refine CT az<|Wk<|Ws<|Wb<|Ws<|Wg<|A<|We<|B ah fun bd b9 ah=>WP.cut (fun f w=>∃ (ai:Hp),f 1=(ptr q 0)∧f 3=(int bd)∧f 5=(int an)∧Sl ai l b.fKeys∧Sl ai o b.fVary∧Sl ai p b.fSnapshot∧Sl ai k b.fFields∧St u t w ai [.box q 36 [l,o,p,(str b.fReason),k,(str b.fBody),(int b.fRequested),(int b.fReceived)]]) ?_ ?_
   ·refine Wb ?_
    refine WP.loopM (zEl b an) (fun s f w=>match s with | (be,bf)=>∃ (aa:Hp),f 1=(ptr q 0)∧f 3=(int be)∧f 5=(int an)∧f 6=(int bf)∧Sl aa l b.fKeys∧Sl aa o b.fVary∧Sl aa p b.fSnapshot∧Sl aa k b.fFields∧St u t w aa [.box q 36 [l,o,p,(str b.fReason),k,(str b.fBody),(int b.fRequested),(int b.fReceived)]]) (ax,0) bd b9 ?_ ?_
    ·exact ⟨z,ay,bb,bc,rfl,c,i,j,d,S⟩
    intro s f w hI c5 v ca
    obtain ⟨be,bf⟩:=s
    obtain ⟨aa,ap,bg,aq,a0,c,i,j,d,S⟩:=hI
    refine Ws<|Ws<|Wg<|M' a0<|Fb' ap ?_
    refine Lo 0 S<|M' aq<|B v fun c6 cb v=>W.idx (α:=(List Str)) c rfl rfl el33 cb ?_
    rintro c7 _ cc ⟨c8,rfl,cd⟩
    refine Lq S cc<|Nq cd<|La<|We ?_
    rcases condE v with ⟨a1,v⟩ | ⟨a1,v⟩
    ·refine CT a1<|Wk<|Ws<|Wb<|Wg<|M' bg<|Fb' ap ?_
     refine Lo 0 S<|M' aq<|B v fun c9 ce v=>W.idx (α:=(List Str)) c rfl rfl el33 ce ?_
     rintro da _ cf ⟨db,rfl,cg⟩
     refine Lq S cf<|M' a0<|B v fun dc ch v=>W.idx (α:=Str) cg rfl rfl el34 ch ?_
     rintro dd _ ci rfl
     refine Lq S ci<|Ns<|Lg<|Lg<|A<|We<|Wg<|M' a0<|Lg<|A<|We ?_
     obtain rfl:=oi v
     exact ⟨rfl,⟨aa,ap,rfl,aq,rfl,c,i,j,d,S⟩⟩
    refine CF a1<|Wx ?_
    obtain rfl:=oi v
    obtain rfl:=ca
    exact ⟨aa,ap,bg,aq,c,i,j,d,S⟩
   rintro f w ⟨ai,cj,ck,cl,c,i,j,d,S⟩
   refine Wg<|M' cl<|Lg<|A<|We ?_
   obtain rfl:=oi ah
   exact ⟨rfl,⟨ai,cj,ck,rfl,c,i,j,d,S⟩⟩
  refine CF az<|Wx ?_
  obtain rfl:=oi ah
  obtain rfl:=b8
  exact ⟨z,ay,bb,c,i,j,d,S⟩
 rintro f w ⟨af,cm,cn,c,i,j,d,S⟩
 refine Ws<|Ws<|Wg<|A<|We<|B h fun a2 co h=>WP.cut (fun f w=>∃ (aj:Hp),f 1=(ptr q 0)∧f 3=(int a2)∧Sl aj l b.fKeys∧Sl aj o b.fVary∧Sl aj p b.fSnapshot∧Sl aj k b.fFields∧St u t w aj [.box q 36 [l,o,p,(str b.fReason),k,(str b.fBody),(int b.fRequested),(int b.fReceived)]]) ?_ ?_
 ·refine Wb ?_
  refine WP.loopM (zDb b) (fun s f w=>match s with | (bh,bi)=>∃ (ab:Hp),f 1=(ptr q 0)∧f 3=(int bh)∧f 7=(int bi)∧Sl ab l b.fKeys∧Sl ab o b.fVary∧Sl ab p b.fSnapshot∧Sl ab k b.fFields∧St u t w ab [.box q 36 [l,o,p,(str b.fReason),k,(str b.fBody),(int b.fRequested),(int b.fReceived)]]) (aw,0) a2 co ?_ ?_
  ·exact ⟨af,cm,cn,rfl,c,i,j,d,S⟩
  intro s f w hI de ak cp
  obtain ⟨bh,bi⟩:=s
  obtain ⟨ab,ar,bj,a3,c,i,j,d,S⟩:=hI
  refine Ws<|Ws<|Wg<|M' a3<|Fb' ar ?_
  refine Lo 0 S<|Nq i<|La<|We ?_
  rcases condE ak with ⟨a4,ak⟩ | ⟨a4,ak⟩
  ·refine CT a4<|Wk<|Ws<|Wb<|Wg<|M' bj<|Fb' ar ?_
   refine Lo 0 S<|M' a3<|B ak fun df cq ak=>W.idx (α:=Str) i rfl rfl el34 cq ?_
   rintro dh _ cr rfl
   refine Lq S cr<|Ns<|Lg<|Lg<|A<|We<|Wg<|M' a3<|Lg<|A<|We ?_
   obtain rfl:=oi ak
   exact ⟨rfl,⟨ab,ar,rfl,rfl,c,i,j,d,S⟩⟩
  refine CF a4<|Wx ?_
  obtain rfl:=oi ak
  obtain rfl:=cp
  exact ⟨ab,ar,bj,c,i,j,d,S⟩
 rintro f w ⟨aj,cs,ct,c,i,j,d,S⟩
 refine Ws<|Ws<|Wg<|A<|We<|B h fun bk cu h=>WP.cut (fun f w=>∃ (bn:Hp),f 3=(int bk)∧St u t w bn []) ?_ ?_
 ·refine Wb ?_
  refine WP.loopM (zDs b) (fun s f w=>match s with | (bo,bp)=>∃ (ac:Hp),f 1=(ptr q 0)∧f 3=(int bo)∧f 8=(int bp)∧Sl ac l b.fKeys∧Sl ac o b.fVary∧Sl ac p b.fSnapshot∧Sl ac k b.fFields∧St u t w ac [.box q 36 [l,o,p,(str b.fReason),k,(str b.fBody),(int b.fRequested),(int b.fReceived)]]) (a2,0) bk cu ?_ ?_
  ·exact ⟨aj,cs,ct,rfl,c,i,j,d,S⟩
  intro s f w hI di al cv
  obtain ⟨bo,bp⟩:=s
  obtain ⟨ac,a5,bq,a6,c,i,j,d,S⟩:=hI
  refine Ws<|Ws<|Wg<|M' a6<|Fb' a5 ?_
  refine Lo 0 S<|Nq j<|La<|We ?_
  rcases condE al with ⟨a7,al⟩ | ⟨a7,al⟩
  ·refine CT a7<|Wk<|Ws<|Wb<|Wg<|M' bq<|Fb' a5 ?_
   refine Lo 0 S<|M' a6<|B al fun dj cw al=>W.idx (α:=Str) j rfl rfl el34 cw ?_
   rintro dk _ cx rfl
   refine Lq S cx<|Ns<|Lg<|Lg<|A<|We<|Wg<|M' a6<|Lg<|A<|We ?_
   obtain rfl:=oi al
   exact ⟨rfl,⟨ac,a5,rfl,rfl,c,i,j,d,S⟩⟩
  refine CF a7<|Wx ?_
  obtain rfl:=oi al
  obtain rfl:=cv
  exact ⟨ac,bq,(S.pk [])⟩
 rintro f w ⟨bn,cy,S⟩
 refine Ws<|Wg<|M' cy<|A<|We ?_
 exact WP.ret (Ri h S)
theorem zDp {q:World} {c:Hp} (hw:Holds q c) (i:GTable) {j:Value} {k:Value} (l:Sl c j i.fAxes) (d:Sl c k i.fEntries) {r:Int} (h:zDu i=some r) :
  Ci Tryz.prog 26 [(agg [j,k])] q c r:=by
 refine CM 21 Tryz.func26 hw fun S=>?_
 refine Ws<|Wg ?_
 refine W.box [j,k] S rfl rfl ?_
 intro x w2 S
 refine A<|We<|Ws<|Wg<|A<|We<|Ws<|Ws<|Wg<|A<|We<|B h fun z ae h=>WP.cut (fun f w=>∃ (H9:Hp),f 3=(int z)∧St q c w H9 []) ?_ ?_
 ·refine Wb ?_
  refine WP.loopM (zBl i) (fun s f w=>match s with | (ab,ac)=>∃ (o:Hp),f 1=(ptr x 0)∧f 3=(int ab)∧f 4=(int ac)∧Sl o j i.fAxes∧Sl o k i.fEntries∧St q c w o [.box x 25 [j,k]]) (0,0) z ae ?_ ?_
  ·exact ⟨c,rfl,rfl,rfl,l,d,S⟩
  intro s f w hI ay b af
  obtain ⟨ab,ac⟩:=s
  obtain ⟨o,t,h6,u,l,d,S⟩:=hI
  refine Ws<|Ws<|Wg<|M' u<|Fb' t ?_
  refine Lo 0 S<|Nq d<|La<|We ?_
  rcases condE b with ⟨v,b⟩ | ⟨v,b⟩
  ·refine CT v<|Wk<|Ws<|Wb<|Wg<|M' h6<|Fb' t ?_
   refine Lo 0 S<|M' u<|B b fun p ah b=>W.idx (α:=GEntry) d rfl rfl el23 ah ?_
   rintro az _ ai ⟨aj,ak,al,am,rfl,an,ao,ap,aq⟩
   refine WL.w (R.loadHN (vs:=[aj,ak,al,(str p.fReason),am,(str p.fBody),(int p.fRequested),(int p.fReceived)]) S rfl ai lay36 rfl rfl)<|B b fun a0 ar b=>W.call S rfl (zJ5 S.holds p an ao ap aq ar) ?_
   rintro a1 a2 au av S rfl
   have ⟨d,l⟩:=U2 av d l
   refine Lg<|A<|We<|Wg<|M' u<|Lg<|A<|We ?_
   obtain rfl:=oi b
   exact ⟨rfl,⟨au,t,rfl,rfl,l,d,S⟩⟩
  refine CF v<|Wx ?_
  obtain rfl:=oi b
  obtain rfl:=af
  exact ⟨o,h6,(S.pk [])⟩
 rintro f w ⟨H9,aw,S⟩
 refine Ws<|Wg<|M' aw<|A<|We ?_
 exact WP.ret (Ri h S)
theorem zJy {t:World} {d:Hp} (hw:Holds t d) (c:UInt8) {r:Bool} (h:zGp c=some r) :
  Cb Tryz.prog 120 [(byt c)] t d r:=by
 refine CM 42 Tryz.func120 hw fun S=>?_
 refine Ws<|Wg<|A<|We<|Ws<|Ws<|Wg<|M<|We<|B h fun j4 p h=>WP.cut (fun f w=>match j4 with | .inl _=>∃ (H1:Hp),f 0=(byt c)∧St t d w H1 [] | .inr _=>False) ?_ ?_
 ·refine Wb<|Ws<|Ws<|Wg<|Me c 33<|A<|We<|B p fun aq b p=>WP.cut (fun f w=>∃ (u:Hp),f 0=(byt c)∧f 4=(boo aq)∧St t d w u []) ?_ ?_
  ·rcases condE b with ⟨v,b⟩ | ⟨v,b⟩
   ·refine CT v<|Wk ?_
    obtain rfl:=oi b
    exact ⟨d,rfl,rfl,S⟩
   refine CF v<|Ws<|Wg<|Me c 35<|A<|We ?_
   rcases condE b with ⟨x,b⟩ | ⟨x,b⟩
   ·refine CT x<|Wk ?_
    obtain rfl:=oi b
    exact ⟨d,rfl,rfl,S⟩
   refine CF x<|Ws<|Wg<|Me c 36<|A<|We ?_
   rcases condE b with ⟨z,b⟩ | ⟨z,b⟩
   ·refine CT z<|Wk ?_
    obtain rfl:=oi b
    exact ⟨d,rfl,rfl,S⟩
   refine CF z<|Ws<|Wg<|Me c 37<|A<|We ?_
   rcases condE b with ⟨aa,b⟩ | ⟨aa,b⟩
   ·refine CT aa<|Wk ?_
    obtain rfl:=oi b
    exact ⟨d,rfl,rfl,S⟩
   refine CF aa<|Ws<|Wg<|Me c 38<|A<|We ?_
   rcases condE b with ⟨ab,b⟩ | ⟨ab,b⟩
   ·refine CT ab<|Wk ?_
    obtain rfl:=oi b
    exact ⟨d,rfl,rfl,S⟩
   refine CF ab<|Ws<|Wg<|Me c 39<|A<|We ?_
   rcases condE b with ⟨ac,b⟩ | ⟨ac,b⟩
   ·refine CT ac<|Wk ?_
    obtain rfl:=oi b
    exact ⟨d,rfl,rfl,S⟩
   refine CF ac<|Ws<|Wg<|Me c 42<|A<|We ?_
   rcases condE b with ⟨ad,b⟩ | ⟨ad,b⟩
   ·refine CT ad<|Wk ?_
    obtain rfl:=oi b
    exact ⟨d,rfl,rfl,S⟩
   refine CF ad<|Ws<|Wg<|Me c 43<|A<|We ?_
   rcases condE b with ⟨ae,b⟩ | ⟨ae,b⟩
   ·refine CT ae<|Wk ?_
    obtain rfl:=oi b
    exact ⟨d,rfl,rfl,S⟩
   refine CF ae<|Ws<|Wg<|Me c 45<|A<|We ?_
   rcases condE b with ⟨af,b⟩ | ⟨af,b⟩
   ·refine CT af<|Wk ?_
    obtain rfl:=oi b
    exact ⟨d,rfl,rfl,S⟩
   refine CF af<|Ws<|Wg<|Me c 46<|A<|We ?_
   rcases condE b with ⟨ah,b⟩ | ⟨ah,b⟩
   ·refine CT ah<|Wk ?_
    obtain rfl:=oi b
    exact ⟨d,rfl,rfl,S⟩
   refine CF ah<|Ws<|Wg<|Me c 94<|A<|We ?_
   rcases condE b with ⟨ai,b⟩ | ⟨ai,b⟩
   ·refine CT ai<|Wk ?_
    obtain rfl:=oi b
    exact ⟨d,rfl,rfl,S⟩
   refine CF ai<|Ws<|Wg<|Me c 95<|A<|We ?_
   rcases condE b with ⟨aj,b⟩ | ⟨aj,b⟩
   ·refine CT aj<|Wk ?_
    obtain rfl:=oi b
    exact ⟨d,rfl,rfl,S⟩
   refine CF aj<|Ws<|Wg<|Me c 96<|A<|We ?_
   rcases condE b with ⟨ak,b⟩ | ⟨ak,b⟩
   ·refine CT ak<|Wk ?_
    obtain rfl:=oi b
    exact ⟨d,rfl,rfl,S⟩
   refine CF ak<|Ws<|Wg<|Me c 124<|A<|We ?_
   rcases condE b with ⟨al,b⟩ | ⟨al,b⟩
   ·refine CT al<|Wk ?_
    obtain rfl:=oi b
    exact ⟨d,rfl,rfl,S⟩
   refine CF al<|Wg<|Me c 126<|A<|We ?_
   obtain rfl:=oi b
   exact ⟨d,rfl,rfl,S⟩
  rintro f w ⟨u,h6,h8,S⟩
  rcases condE p with ⟨am,p⟩ | ⟨am,p⟩
  ·refine WP.condT h8 am<|Ws<|Wg<|A<|We ?_
   obtain rfl:=oi p
   exact WP.ret (Rb h S)
  refine WP.condF h8 am<|Wk ?_
  obtain rfl:=oi p
  exact ⟨u,h6,S⟩
 intro f w hM
 rcases j4 with _ | e
 ·obtain ⟨H1,q,S⟩:=hM
  refine Ws<|Wg<|M' q<|Md c 48<|M ?_
  refine WL.grp 3 [23,24] 25 (boo ((decide (48≤c))&&(decide (c≤57)))) ?_ ?_
  ·rcases boolE (decide (48≤c)) with k | k
   ·refine Gy k<|M' q<|Gy k<|Mb c 57<|Pt k ?_
    exact We ⟨(andT k),ag,rfl⟩
   refine Gn k<|Gn k<|Pf k ?_
   exact We ⟨(andF k),ag,rfl⟩
  intro us
  refine M ?_
  refine WL.grp 7 [27,28,29,30,31,32] 33 (boo (((decide (48≤c))&&(decide (c≤57)))||((decide (65≤c))&&(decide (c≤90))))) ?_ ?_
  ·rcases boolE ((decide (48≤c))&&(decide (c≤57))) with i | i
   ·refine Gn i<|Gn i<|Gn i<|WL.gund rfl rfl<|WL.gund rfl rfl<|Gn i<|Pt i ?_
    exact We ⟨(orT i),ag,rfl⟩
   refine Gy i<|M' q<|Gy i<|Md c 65<|Gy i<|M ?_
   refine WL.grp 3 [30,31] 32 (boo ((decide (65≤c))&&(decide (c≤90)))) ?_ ?_
   ·rcases boolE (decide (65≤c)) with l | l
    ·refine Gy l<|M' q<|Gy l<|Mb c 90<|Gy i<|Pt l ?_
     exact We ⟨(andT l),ag,rfl⟩
    refine Gn l<|Gn l<|Gy i<|Pf l ?_
    exact We ⟨(andF l),ag,rfl⟩
   intro us
   refine Pf i ?_
   exact We ⟨(orF i),ag,rfl⟩
  intro us
  refine M ?_
  refine WL.grp 7 [35,36,37,38,39,40] 41 (boo ((((decide (48≤c))&&(decide (c≤57)))||((decide (65≤c))&&(decide (c≤90))))||((decide (97≤c))&&(decide (c≤122))))) ?_ ?_
  ·rcases boolE (((decide (48≤c))&&(decide (c≤57)))||((decide (65≤c))&&(decide (c≤90)))) with j | j
   ·refine Gn j<|Gn j<|Gn j<|WL.gund rfl rfl<|WL.gund rfl rfl<|Gn j<|Pt j ?_
    exact We ⟨(orT j),ag,rfl⟩
   refine Gy j<|M' q<|Gy j<|Md c 97<|Gy j<|M ?_
   refine WL.grp 3 [38,39] 40 (boo ((decide (97≤c))&&(decide (c≤122)))) ?_ ?_
   ·rcases boolE (decide (97≤c)) with o | o
    ·refine Gy o<|M' q<|Gy o<|Mb c 122<|Gy j<|Pt o ?_
     exact We ⟨(andT o),ag,rfl⟩
    refine Gn o<|Gn o<|Gy j<|Pf o ?_
    exact We ⟨(andF o),ag,rfl⟩
   intro us
   refine Pf j ?_
   exact We ⟨(orF j),ag,rfl⟩
  intro us
  refine A<|We ?_
  exact WP.ret (Rb h S)
 exact hM.elim
theorem zAx {i:World} {d:Hp} (hw:Holds i d) (c:Str) {r:Bool} (h:zAy c=some r) :
  Cb Tryz.prog 93 [(str c)] i d r:=by
 refine CM 17 Tryz.func93 hw fun S=>?_
 refine Ws<|Wg<|A<|We<|Ws<|Ws<|Wg<|M<|Ns<|M<|We<|B h fun j z h=>WP.cut (fun f w=>match j with | .inl _=>∃ (t:Hp),f 0=(str c)∧St i d w t [] | .inr _=>False) ?_ ?_
 ·refine Wb ?_
  refine WP.loopM (zC9 c) (fun s f w=>match s with | u=>∃ (k:Hp),f 0=(str c)∧f 5=(int (c.length:Int))∧f 6=(int u)∧St i d w k []) 0 j z ?_ ?_
  ·exact ⟨d,rfl,rfl,rfl,S⟩
  intro u f w hI y8 b v
  obtain ⟨k,l,x,o,S⟩:=hI
  refine Ws<|Wg<|La' o x<|We<|Ws ?_
  rcases condE b with ⟨p,b⟩ | ⟨p,b⟩
  ·refine CT p<|Wk<|Ws<|Wb<|Ws<|Wg<|M' o<|A<|We<|Ws<|Wg<|M' l ?_
   refine M<|B b fun aa ab b=>Ja ab<|B b fun ah ac b=>W.call S rfl (zJy S.holds aa ac) ?_
   rintro ai aj ad ak S rfl
   refine No<|We ?_
   rcases condE b with ⟨q,b⟩ | ⟨q,b⟩
   ·refine CT q<|Ws<|Wg<|A<|We ?_
    obtain rfl:=oi b
    obtain rfl:=v
    exact WP.ret (Rb h S)
   refine CF q<|Wk<|Wg<|Lg' o rfl<|M<|We ?_
   obtain rfl:=oi b
   exact ⟨rfl,⟨ad,l,x,rfl,S⟩⟩
  refine CF p<|Wx ?_
  obtain rfl:=oi b
  obtain rfl:=v
  exact ⟨k,l,S⟩
 intro f w hM
 rcases j with _ | e
 ·obtain ⟨t,h7,S⟩:=hM
  refine Ws<|Wg<|M' h7<|Nb<|A<|We ?_
  exact WP.ret (Rb h S)
 exact hM.elim
theorem zAe {v:World} {l:Hp} (hw:Holds v l) (c:Str) {r:Str} (h:zAp c=some r) :
  Cs Tryz.prog 94 [(str c)] v l r:=by
 refine CM 30 Tryz.func94 hw fun S=>?_
 refine Ws<|Wg<|A<|We<|Ws<|Wg<|M<|W.bytes (s:=c) S rfl Tryz.underlying9 Tryz.underlying128 Tryz.underlying5 ?_
 intro o z w3 ap S
 refine A<|We<|Ws<|Ws<|Wg<|M<|Nv<|M<|We<|B h fun p aj h=>WP.cut (fun f w=>∃ (af:Hp),f 3=(.slice (some ⟨o,0,none⟩) c.length z)∧p.length=c.length∧St v l w af [.box o 5 (p.map byt)]) ?_ ?_
 ·refine Wb ?_
  refine WP.loopM (zC0 c) (fun s f w=>match s with | (aa,k)=>∃ (q:Hp),f 3=(.slice (some ⟨o,0,none⟩) c.length z)∧f 8=(.slice (some ⟨o,0,none⟩) c.length z)∧f 9=(int (c.length:Int))∧f 10=(int aa)∧k.length=c.length∧St v l w q [.box o 5 (k.map byt)]) (0,c) p aj ?_ ?_
  ·exact ⟨l,rfl,rfl,rfl,rfl,rfl,S⟩
  intro s f w hI aq b ak
  obtain ⟨aa,k⟩:=s
  obtain ⟨q,x,h6,h7,t,u,S⟩:=hI
  refine Ws<|Wg<|La' t h7<|We<|Ws ?_
  rcases condE b with ⟨ad,b⟩ | ⟨ad,b⟩
  ·refine CT ad<|Wk<|Ws<|Wb<|Ws<|Wg<|M' t<|B b fun ar ah b=>?_
   have au:=(zAn ah).2
   refine WL.w (R.idxB h6 t el128 (by have:=(zAn ah).2; have hl:k.length=c.length:=u; omega))<|B b fun j al b=>?_
   refine WL.w (R.loadB (i:=0) S rfl rfl lay5 (zAn al).1)<|A<|A<|We<|Ws<|Wg<|M<|Md j 65<|M ?_
   refine WL.grp 3 [18,19] 20 (boo ((decide (65≤j))&&(decide (j≤90)))) ?_ ?_
   ·rcases boolE (decide (65≤j)) with d | d
    ·refine Gy d<|M<|Gy d<|Mb j 90<|Pt d ?_
     exact We ⟨(andT d),ag,rfl⟩
    refine Gn d<|Gn d<|Pf d ?_
    exact We ⟨(andF d),ag,rfl⟩
   intro us
   refine We ?_
   rcases condE b with ⟨ae,b⟩ | ⟨ae,b⟩
   ·refine CT ae<|Wg<|M' x<|M<|M<|Mg j 97<|Mh (j+97) 65<|B b fun av ai b=>?_
    have aw:=(zAn ai).2
    refine WL.w (R.idxB rfl rfl el128 (by have:=(zAn ai).2; have hl:k.length=c.length:=u; omega)) ?_
    refine W.store (i:=0) ((k.set aa.toNat ((j+97) - 65)).map byt) S rfl rfl rfl lay5 rfl rfl (by rw [List.length_map]; omega) (zJW _ _ _ (by omega)) ?_
    intro ax S
    refine We<|Wg<|Lg' t rfl<|M<|We ?_
    obtain rfl:=oi b
    exact ⟨rfl,⟨q,x,h6,h7,rfl,(List.length_set.trans u),S⟩⟩
   refine CF ae<|Wk<|Wg<|Lg' t rfl<|M<|We ?_
   obtain rfl:=oi b
   exact ⟨rfl,⟨q,x,h6,h7,rfl,u,S⟩⟩
  refine CF ad<|Wx ?_
  obtain rfl:=oi b
  obtain rfl:=ak
  exact ⟨q,x,u,S⟩
 rintro f w ⟨af,am,an,S⟩
 refine Ws<|Wg<|M' am ?_
 refine WL.w (R.strB (i:=0) (s:=p) S (by rw [show p.length=c.length from an]; exact rfl) rfl Tryz.underlying128 Tryz.underlying9 Tryz.underlying5)<|A<|We ?_
 exact WP.ret (Rs h S)
theorem zC8 {i:World} {j:Hp} (hw:Holds i j) (k:Int) {r:Str} (h:zBH k=some r) :
  Cs Tryz.prog 178 [(int k)] i j r:=by
 refine CM 12 Tryz.func178 hw fun S=>?_
 refine Ws<|Wg<|A<|We<|Ws<|Ws<|Wg<|M<|We<|Wb<|Ws<|Wg ?_
 refine Le<|A<|We ?_
 rcases condE h with ⟨b,h⟩ | ⟨b,h⟩
 ·refine CT b<|Ws<|Wg<|A<|We ?_
  exact WP.ret (Rs h S)
 refine CF b<|Ws<|Wg<|Le<|A<|We ?_
 rcases condE h with ⟨c,h⟩ | ⟨c,h⟩
 ·refine CT c<|Ws<|Wg<|A<|We ?_
  exact WP.ret (Rs h S)
 refine CF c<|Ws<|Wg<|Le<|A<|We ?_
 rcases condE h with ⟨d,h⟩ | ⟨d,h⟩
 ·refine CT d<|Ws<|Wg<|A<|We ?_
  exact WP.ret (Rs h S)
 refine CF d<|Ws<|Wg<|Le<|A<|We ?_
 rcases condE h with ⟨f,h⟩ | ⟨f,h⟩
 ·refine CT f<|Ws<|Wg<|A<|We ?_
  exact WP.ret (Rs h S)
 refine CF f<|Wk<|Ws<|Wg<|A<|We ?_
 exact WP.ret (Rs h S)
theorem zCs {j:World} {d:Hp} (hw:Holds j d) (f:Str) (i:Str) {r:Bool} (h:zCk f i=some r) :
  Cb Tryz.prog 177 [(str f),(str i)] j d r:=by
 refine CM 17 Tryz.func177 hw fun S=>?_
 refine Ws<|Wg<|A<|We<|Ws<|Wg<|M<|Ns<|M<|Ns<|Le<|M<|B h fun k c h=>WL.grpw 6 [11,12,13,14,15] 16 (boo k) (fun w=>∃ H':Hp,d.le H'∧St j d w H' []) ?_ ?_
 ·rcases boolE ((f.length:Int)==(i.length:Int)) with b | b
  ·replace c:=condT c b
   refine Gy b<|M<|Gy b<|B c fun u l c=>W.call S rfl (zAe S.holds f l) ?_
   rintro v x z o S rfl
   refine Gy b<|M<|Gy b<|B c fun r8 p c=>W.call S rfl (zAe S.holds i p) ?_
   rintro v9 ac q t S rfl
   refine Gy b<|Na<|Pt b ?_
   exact We ⟨(ob c),ag,⟨q,(o.trans t),S⟩⟩
  replace c:=condF c b
  refine Gn b<|Gn b<|Gn b<|Gn b<|Gn b<|Pf b ?_
  exact We ⟨(ob c),ag,⟨d,lr,S⟩⟩
 intro us ad ⟨ae,af,S⟩
 refine A<|We ?_
 exact WP.ret (Rb h S)
theorem zFc {k:World} {l:Hp} (hw:Holds k l) (c:Str) {r:Int} (h:zD4 c=some r) :
  Ci Tryz.prog 139 [(str c)] k l r:=by
 refine CM 13 Tryz.func139 hw fun S=>?_
 refine Ws<|Wg<|A<|We<|Ws<|Ws<|Wg<|A<|We<|Wb<|WP.loopRd 5<|RD.succ ?_
 refine Ws<|Ws<|Wg<|M ?_
 refine WL.w (v:=boo true) (R.ofEq (R.leq rfl rfl) rfl)<|We<|WP.condT (b:=true) rfl rfl<|Wk<|Ws<|Wb<|Ws<|Wg ?_
 refine M<|M<|B h fun o p h=>W.call S rfl (zC8 S.holds 1 p) ?_
 rintro v2 w3 H4 aj S rfl
 refine B h fun r6 q h=>W.call S rfl (zCs S.holds c o q) ?_
 rintro v7 w8 H9 ao S rfl
 refine We ?_
 rcases condE h with ⟨d,h⟩ | ⟨d,h⟩
 ·refine CT d<|Ws<|Wg<|M<|A<|We ?_
  exact WP.ret (Ri h S)
 refine CF d<|Wk<|Wg<|M ?_
 refine WL.w (v:=int 2) (R.ofEq (R.add rfl rfl) rfl)<|A<|We<|RD.succ<|Ws<|Ws<|Wg<|M ?_
 refine WL.w (v:=boo true) (R.ofEq (R.leq rfl rfl) rfl)<|We<|WP.condT (b:=true) rfl rfl<|Wk<|Ws<|Wb<|Ws<|Wg<|M<|M<|B h fun t u h=>W.call S rfl (zC8 S.holds 2 u) ?_
 rintro ap aq ar au S rfl
 refine B h fun av x h=>W.call S rfl (zCs S.holds c t x) ?_
 rintro aw ax ay az S rfl
 refine We ?_
 rcases condE h with ⟨f,h⟩ | ⟨f,h⟩
 ·refine CT f<|Ws<|Wg<|M<|A<|We ?_
  exact WP.ret (Ri h S)
 refine CF f<|Wk<|Wg<|M ?_
 refine WL.w (v:=int 3) (R.ofEq (R.add rfl rfl) rfl)<|A<|We<|RD.succ<|Ws<|Ws<|Wg<|M ?_
 refine WL.w (v:=boo true) (R.ofEq (R.leq rfl rfl) rfl)<|We<|WP.condT (b:=true) rfl rfl<|Wk<|Ws<|Wb<|Ws<|Wg<|M<|M<|B h fun z aa h=>W.call S rfl (zC8 S.holds 3 aa) ?_
 rintro a0 a1 a2 a3 S rfl
 refine B h fun a4 ab h=>W.call S rfl (zCs S.holds c z ab) ?_
 rintro a5 a6 a7 a8 S rfl
 refine We ?_
 rcases condE h with ⟨i,h⟩ | ⟨i,h⟩
 ·refine CT i<|Ws<|Wg<|M<|A<|We ?_
  exact WP.ret (Ri h S)
 refine CF i<|Wk<|Wg<|M ?_
 refine WL.w (v:=int 4) (R.ofEq (R.add rfl rfl) rfl)<|A<|We<|RD.succ<|Ws<|Ws<|Wg<|M ?_
 refine WL.w (v:=boo true) (R.ofEq (R.leq rfl rfl) rfl)<|We<|WP.condT (b:=true) rfl rfl<|Wk<|Ws<|Wb<|Ws<|Wg<|M<|M<|B h fun ac ad h=>W.call S rfl (zC8 S.holds 4 ad) ?_
 rintro a9 ba bb bc S rfl
 refine B h fun bd ae h=>W.call S rfl (zCs S.holds c ac ae) ?_
 rintro be bf bg bh S rfl
 refine We ?_
 rcases condE h with ⟨j,h⟩ | ⟨j,h⟩
 ·refine CT j<|Ws<|Wg<|M<|A<|We ?_
  exact WP.ret (Ri h S)
 refine CF j<|Wk<|Wg<|M ?_
 refine WL.w (v:=int 5) (R.ofEq (R.add rfl rfl) rfl)<|A<|We<|RD.succ<|Ws<|Ws<|Wg<|M ?_
 refine WL.w (v:=boo false) (R.ofEq (R.leq rfl rfl) rfl)<|We<|WP.condF (b:=false) rfl rfl<|Wx<|Ws<|Wg<|A<|We ?_
 exact WP.ret (Ri h S)
theorem zEi {d:World} {i:Hp} (hw:Holds d i) (j:Str) {r:Gvariants_domain} (h:zBx j=some r) :
  Con Tryz.prog 121 [(str j)] d i (fun H' v=>v=(Tryz.vvariants_domain r)):=by
 refine CM 22 Tryz.func121 hw fun S=>?_
 refine Ws<|Wg<|A<|We<|Ws<|Ws<|Wg<|M<|B h fun t ab h=>W.call S rfl (zFc S.holds j ab) ?_
 rintro v2 w3 u ah S rfl
 refine A<|We<|Ws<|Wg<|M<|We<|B h fun x b h=>WP.cut (fun f w=>match x with | .inl _=>∃ (z:Hp),St d i w z [] | .inr _=>False) ?_ ?_
 ·refine Wb<|Ws<|Wg<|Le<|A<|We ?_
  rcases condE b with ⟨k,b⟩ | ⟨k,b⟩
  ·refine CT k<|Ws<|Wg ?_
   refine WL.w (R.build [] [] bp152 zPh rfl rfl) ?_
   refine WL.w (v:=Tryz.vvariants_domain (.media:Gvariants_domain)) (R.ofEq (R.mkIface rfl Tryz.underlying152 (by intro _ h; cases h)) rfl)<|A<|We ?_
   obtain rfl:=oi b
   obtain rfl:=oi h
   refine WP.ret (Out.one rfl S rfl ?_)
   exact rfl
  refine CF k<|Ws<|Wg<|Le<|A<|We ?_
  rcases condE b with ⟨l,b⟩ | ⟨l,b⟩
  ·refine CT l<|Ws<|Wg ?_
   refine WL.w (R.build [] [] bp153 zPW rfl rfl) ?_
   refine WL.w (v:=Tryz.vvariants_domain (.tags:Gvariants_domain)) (R.ofEq (R.mkIface rfl Tryz.underlying153 (by intro _ h; cases h)) rfl)<|A<|We ?_
   obtain rfl:=oi b
   obtain rfl:=oi h
   refine WP.ret (Out.one rfl S rfl ?_)
   exact rfl
  refine CF l<|Ws<|Ws<|Wg<|Le<|A<|We<|B b fun ac c b=>WP.cut (fun f w=>∃ (o:Hp),f 3=(int t)∧f 15=(boo ac)∧St d i w o []) ?_ ?_
  ·rcases condE c with ⟨p,c⟩ | ⟨p,c⟩
   ·refine CT p<|Wk ?_
    obtain rfl:=oi c
    exact ⟨u,rfl,rfl,S⟩
   refine CF p<|Wg<|Le<|A<|We ?_
   obtain rfl:=oi c
   exact ⟨u,rfl,rfl,S⟩
  rintro f w ⟨o,ad,aa,S⟩
  rcases condE b with ⟨q,b⟩ | ⟨q,b⟩
  ·refine WP.condT aa q<|Ws<|Wg<|M' ad ?_
   refine WL.w (v:=Tryz.vvariants_domain (.words t:Gvariants_domain)) (R.ofEq (R.mkIface rfl Tryz.underlying154 (by intro _ h; cases h)) rfl)<|A<|We ?_
   obtain rfl:=oi b
   obtain rfl:=oi h
   refine WP.ret (Out.one rfl S rfl ?_)
   exact rfl
  refine WP.condF aa q<|Wk ?_
  obtain rfl:=oi b
  exact ⟨o,S⟩
 intro f w hM
 rcases x with _ | e
 ·obtain ⟨z,S⟩:=hM
  refine Ws<|Wg ?_
  refine WL.w (R.build [] [] bp155 zPi rfl rfl) ?_
  refine WL.w (v:=Tryz.vvariants_domain (.texts:Gvariants_domain)) (R.ofEq (R.mkIface rfl Tryz.underlying155 (by intro _ h; cases h)) rfl)<|A<|We ?_
  obtain rfl:=oi h
  refine WP.ret (Out.one rfl S rfl ?_)
  exact rfl
 exact hM.elim
theorem zKk {w0:World} {u:Hp} (hw:Holds w0 u) (x:Str) {r:(List Str)} (h:zH1 x=some r) :
  Con Tryz.prog 241 [(str x)] w0 u (fun H' v=>Sl H' v r):=by
 refine CM 54 Tryz.func241 hw fun S=>?_
 refine Ws<|Wg<|A<|We<|Ws<|Wg<|A<|We<|Ws<|Wg<|A<|A ?_
 refine We<|Ws<|Ws<|Wg<|A<|We ?_
 have S:=S.addNil 9 1
 refine B h fun ae aw h=>WP.cut (fun f w=>match ae with | (af,ap)=>∃ (ah:Hp) (ac:Value),f 0=(str x)∧f 3=ac∧f 5=(int ap)∧Sl ah ac af∧St w0 u w ah [.row ac 9 1 af.length]) ?_ ?_
 ·refine Wb ?_
  refine WP.loopM (zDN x) (fun s f w=>match s with | (ai,ad,aq,ar)=>∃ (q:Hp) (o:Value),f 0=(str x)∧f 3=o∧f 4=(boo ad)∧f 5=(int aq)∧f 6=(int ar)∧Sl q o ai∧St w0 u w q [.row o 9 1 ai.length]) (([]:List Str),false,0,0) ae aw ?_ ?_
  ·exact ⟨u,.slice none 0 0,rfl,rfl,rfl,rfl,rfl,Sl.nil,S⟩
  intro s f w hI bk b ax
  obtain ⟨ai,ad,aq,ar⟩:=s
  obtain ⟨q,o,d,z,t,aa,j,k,S⟩:=hI
  refine Ws<|Ws<|Wg<|M' j<|M' d<|Ns<|La<|We ?_
  rcases condE b with ⟨aj,b⟩ | ⟨aj,b⟩
  ·refine CT aj<|Wk<|Ws<|Wb<|Wb<|Ws<|Wg<|M' t<|M<|B b fun ay p b=>WL.grp 5 [16,17,18,19] 20 (boo ay) ?_ ?_
   ·rcases boolE ad with c | c
    ·replace p:=condT p c
     refine Gy c<|M' d<|Gy c<|M' j<|Gy c<|B p fun az a0 p=>Ja a0<|Gy c<|Me az 92<|Pt c ?_
     exact We ⟨(ob p),ag,rfl⟩
    replace p:=condF p c
    refine Gn c<|Gn c<|Gn c<|Gn c<|Pf c ?_
    exact We ⟨(ob p),ag,rfl⟩
   intro us
   refine A<|We ?_
   rcases condE b with ⟨ak,b⟩ | ⟨ak,b⟩
   ·refine CT ak<|Wg<|M' j<|Lg<|A<|We<|Wg<|M<|Lg<|A<|We ?_
    obtain rfl:=oi b
    exact ⟨rfl,⟨q,o,d,z,t,aa,rfl,k,S⟩⟩
   refine CF ak<|Ws<|Wg<|M' d<|M' j<|B b fun a1 a2 b=>Ja a2<|Me a1 34<|A<|We ?_
   rcases condE b with ⟨al,b⟩ | ⟨al,b⟩
   ·refine CT al<|Wg<|M' t<|No<|A<|We<|Wg<|M' j<|Lg<|A<|We ?_
    obtain rfl:=oi b
    exact ⟨rfl,⟨q,o,d,z,rfl,aa,rfl,k,S⟩⟩
   refine CF al<|Ws<|Wg<|M' d<|M' j<|B b fun am a3 b=>Ja a3<|Me am 59<|M ?_
   refine WL.grp 3 [36,37] 38 (boo ((am==59)&&(!ad))) ?_ ?_
   ·rcases boolE (am==59) with l | l
    ·refine Gy l<|M' t<|Gy l<|No<|Pt l ?_
     exact We ⟨(andT l),ag,rfl⟩
    refine Gn l<|Gn l<|Pf l ?_
    exact We ⟨(andF l),ag,rfl⟩
   intro us
   refine A<|We ?_
   rcases condE b with ⟨an,b⟩ | ⟨an,b⟩
   ·refine CT an<|Ws<|Wg<|M' z<|M' d<|M' aa<|M' j<|B b fun au a4 b=>Jb a4<|W.bslice (α:=Str) [(str au)] ([au]:List Str) S el34 rfl rfl rfl (by decide) (Go.Eng.encS ⟨rfl,rfl⟩ enc0) ?_
    intro bn bo bp a5 a6 S
    have k:=k.up a5
    refine B b fun bq a7 b=>W.app (α:=Str) (i:=1) S el34 rfl rfl rfl k a6 a7 ?_
    intro a8 br a9 ba bb S
    have k:=k.up ba
    refine A<|We<|Wg<|M' j<|Lg<|A<|We<|Wg<|M' j<|Lg<|A<|We ?_
    obtain rfl:=oi b
    exact ⟨rfl,⟨a9,a8,d,rfl,t,rfl,rfl,bb,(S.pk [1])⟩⟩
   refine CF an<|Wk<|Wg<|M' j<|Lg<|A<|We ?_
   obtain rfl:=oi b
   exact ⟨rfl,⟨q,o,d,z,t,aa,rfl,k,S⟩⟩
  refine CF aj<|Wx ?_
  obtain rfl:=oi b
  obtain rfl:=ax
  exact ⟨q,o,d,z,aa,k,S⟩
 intro f w hM
 obtain ⟨af,ap⟩:=ae
 obtain ⟨ah,ac,bc,bd,be,ao,S⟩:=hM
 refine Ws<|Wg<|M' bd<|M' bc<|M' be<|B h fun av bf h=>Jc bf<|W.bslice (α:=Str) [(str av)] ([av]:List Str) S el34 rfl rfl rfl (by decide) (Go.Eng.encS ⟨rfl,rfl⟩ enc0) ?_
 intro bs bt bu bg bh S
 have ao:=ao.up bg
 refine B h fun bv bi h=>W.app (α:=Str) (i:=1) S el34 rfl rfl rfl ao bh bi ?_
 intro bw bx bz b0 bj S
 refine A<|We ?_
 exact WP.ret (Rl h S bj)
theorem zFu {l:World} {j:Hp} (hw:Holds l j) (p:Str) (k:UInt8) {r:Str} (h:zEb p k=some r) :
  Cs Tryz.prog 231 [(str p),(byt k)] l j r:=by
 refine CM 23 Tryz.func231 hw fun S=>?_
 refine Ws<|Wg<|A<|We<|Ws<|B h fun u z h=>WP.cut (fun f w=>∃ (v:Hp),f 0=(str u)∧St l j w v []) ?_ ?_
 ·refine Wb ?_
  refine WP.loopM (zDP k) (fun s f w=>match s with | q=>∃ (o:Hp),f 0=(str q)∧f 1=(byt k)∧St l j w o []) p u z ?_ ?_
  ·exact ⟨j,rfl,rfl,S⟩
  intro q f w hI y8 c aa
  obtain ⟨o,i,x,S⟩:=hI
  refine Ws<|Ws<|Wg<|M' i<|Ns<|Lc<|M<|B c fun ab d c=>WL.grp 8 [9,10,11,12,13,14,15] 16 (boo ab) ?_ ?_
  ·rcases boolE (decide (0<(q.length:Int))) with b | b
   ·replace d:=condT d b
    refine Gy b<|M' i<|Gy b<|M' i<|Gy b<|Ns<|Gy b<|Lh<|Gy b<|B d fun ac ad d=>Ja ad<|Gy b<|M' x<|Gy b<|Me ac k<|Pt b ?_
    exact We ⟨(ob d),ag,rfl⟩
   replace d:=condF d b
   refine Gn b<|Gn b<|Gn b<|Gn b<|Gn b<|Gn b<|Gn b<|Pf b ?_
   exact We ⟨(ob d),ag,rfl⟩
  intro us
  refine We ?_
  rcases condE c with ⟨t,c⟩ | ⟨t,c⟩
  ·refine CT t<|Wk<|Wb<|Wg<|M' i<|M' i<|Ns<|Lh<|B c fun ai ae c=>Jd ae<|A<|We ?_
   obtain rfl:=oi c
   exact ⟨rfl,⟨o,rfl,x,S⟩⟩
  refine CF t<|Wx ?_
  obtain rfl:=oi c
  obtain rfl:=aa
  exact ⟨o,i,S⟩
 rintro f w ⟨v,h7,S⟩
 refine Ws<|Wg<|M' h7<|A<|We ?_
 exact WP.ret (Rs h S)
theorem zGI {k:World} {i:Hp} (hw:Holds k i) (p:Str) (j:UInt8) {r:Str} (h:zEj p j=some r) :
  Cs Tryz.prog 160 [(str p),(byt j)] k i r:=by
 refine CM 17 Tryz.func160 hw fun S=>?_
 refine Ws<|Wg<|A<|We<|Ws<|B h fun u z h=>WP.cut (fun f w=>∃ (v:Hp),f 0=(str u)∧St k i w v []) ?_ ?_
 ·refine Wb ?_
  refine WP.loopM (zDk j) (fun s f w=>match s with | q=>∃ (l:Hp),f 0=(str q)∧f 1=(byt j)∧St k i w l []) p u z ?_ ?_
  ·exact ⟨i,rfl,rfl,S⟩
  intro q f w hI y8 c aa
  obtain ⟨l,o,x,S⟩:=hI
  refine Ws<|Ws<|Wg<|M' o<|Ns<|Lc<|M<|B c fun ab d c=>WL.grp 5 [9,10,11,12] 13 (boo ab) ?_ ?_
  ·rcases boolE (decide (0<(q.length:Int))) with b | b
   ·replace d:=condT d b
    refine Gy b<|M' o<|Gy b<|B d fun ac ad d=>Ja ad<|Gy b<|M' x<|Gy b<|Me ac j<|Pt b ?_
    exact We ⟨(ob d),ag,rfl⟩
   replace d:=condF d b
   refine Gn b<|Gn b<|Gn b<|Gn b<|Pf b ?_
   exact We ⟨(ob d),ag,rfl⟩
  intro us
  refine We ?_
  rcases condE c with ⟨t,c⟩ | ⟨t,c⟩
  ·refine CT t<|Wk<|Wb<|Wg<|M' o<|B c fun ai ae c=>Jc ae<|A<|We ?_
   obtain rfl:=oi c
   exact ⟨rfl,⟨l,rfl,x,S⟩⟩
  refine CF t<|Wx ?_
  obtain rfl:=oi c
  obtain rfl:=aa
  exact ⟨l,o,S⟩
 rintro f w ⟨v,h7,S⟩
 refine Ws<|Wg<|M' h7<|A<|We ?_
 exact WP.ret (Rs h S)
end Go.Proofs

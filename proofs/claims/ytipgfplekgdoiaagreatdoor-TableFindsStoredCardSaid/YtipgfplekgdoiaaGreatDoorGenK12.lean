/- A part. -/
import Derived.Test.YtipgfplekgdoiaaGreatDoorEng38
import Derived.Test.YtipgfplekgdoiaaGreatDoorEng33
import Derived.Test.YtipgfplekgdoiaaGreatDoorGenK11
namespace Go.Proofs
set_option maxHeartbeats 4000000
set_option maxRecDepth 10000
open Go.Eng Go.Eng.Pure
set_option linter.unusedVariables false
theorem zLL {w0:World} {H0:Hp} (hw:Holds w0 H0) (o:Int) (p:(List GPref)) (q:Bool) (ab:(List Str)) {t:Value} {u:Value} (c:Sl H0 t p) (b:Sl H0 u ab) {r:(List Str)} (h:zFV o p q ab=some r) :
  Con Tryz.prog 118 [(int o),t,(boo q),u] w0 H0 (fun H' v=>Sl H' v r):=by
 refine CM 84 Tryz.func118 hw fun S=>?_
 refine Ws<|Wg<|A<|We<|Ws<|Wg<|A<|We<|Ws ?_
 have S:=S.addNil 9 1
 refine B h fun a6 b5 h=>WP.cut (fun f w=>∃ (a7:Hp) (av:Value),f 9=av∧Sl a7 av a6∧St w0 H0 w a7 [.row av 9 1 a6.length]) ?_ ?_
 ·refine Wb ?_
  refine WP.loopM (zDH o p q ab) (fun s f w=>match s with | x=>∃ (H1:Hp) (k:Value),f 0=(int o)∧f 1=t∧f 2=(boo q)∧f 3=u∧f 9=k∧Sl H1 t p∧Sl H1 u ab∧Sl H1 k x∧St w0 H0 w H1 [.row k 9 1 x.length]) ([]:List Str) a6 b5 ?_ ?_
  ·exact ⟨H0,.slice none 0 0,rfl,rfl,rfl,rfl,rfl,c,b,Sl.nil,S⟩
  intro x f w hI de l bw
  obtain ⟨H1,k,h2,h3,h4,h5,h9,c,b,d,S⟩:=hI
  refine Ws<|Ws<|Wg<|M' h9<|Nq d<|M' h5<|Nq b<|La<|We ?_
  rcases condE l with ⟨bc,l⟩ | ⟨bc,l⟩
  ·refine CT bc<|Wk<|Wb<|Ws<|Wg<|A<|We<|Ws<|Ws<|Wg<|M' h9<|Nq d ?_
   refine Lc<|We<|B l fun aw ae l=>WP.cut (fun f w=>∃ (ak:Hp),f 0=(int o)∧f 1=t∧f 2=(boo q)∧f 3=u∧f 9=k∧f 10=(int aw)∧Sl ak t p∧Sl ak u ab∧Sl ak k x∧St w0 H0 w ak [.row k 9 1 x.length]) ?_ ?_
   ·rcases condE ae with ⟨bd,ae⟩ | ⟨bd,ae⟩
    ·refine CT bd<|Wg<|M' h2<|M' h3<|M' h4<|M' h9<|M' h9<|Nq d<|Lh<|B ae fun b6 b7 ae=>W.idx (α:=Str) d rfl rfl el34 b7 ?_
     rintro df _ b8 rfl
     refine Lq S b8<|B ae fun dh b9 ae=>W.call S rfl (zE3 S.holds o p q b6 c b9) ?_
     rintro di dj ca be S rfl
     have c:=c.up be
     have b:=b.up be
     have d:=d.up be
     refine A<|We ?_
     cases ae
     exact ⟨ca,h2,h3,h4,h5,h9,rfl,c,b,d,S⟩
    refine CF bd<|Wk ?_
    cases ae
    exact ⟨H1,h2,h3,h4,h5,h9,rfl,c,b,d,S⟩
   rintro f w ⟨ak,cb,cc,cd,ce,cf,cg,c,b,d,S⟩
   refine Ws<|Wg<|A<|We<|Ws<|Ws<|Wg<|A<|We<|B l fun ax ch l=>WP.cut (fun f w=>∃ (aj:Hp),f 0=(int o)∧f 1=t∧f 2=(boo q)∧f 3=u∧f 9=k∧f 11=(int ax)∧Sl aj t p∧Sl aj u ab∧Sl aj k x∧St w0 H0 w aj [.row k 9 1 x.length]) ?_ ?_
   ·refine Wb ?_
    refine WP.loopM (zDA o p q ab x aw) (fun s f w=>match s with | (bx,bz)=>∃ (al:Hp),f 0=(int o)∧f 1=t∧f 2=(boo q)∧f 3=u∧f 9=k∧f 10=(int aw)∧f 11=(int bx)∧f 12=(int bz)∧Sl al t p∧Sl al u ab∧Sl al k x∧St w0 H0 w al [.row k 9 1 x.length]) (0,0) ax ch ?_ ?_
    ·exact ⟨ak,cb,cc,cd,ce,cf,cg,rfl,rfl,c,b,d,S⟩
    intro s f w hI dk z ci
    obtain ⟨bx,bz⟩:=s
    obtain ⟨al,ay,az,a0,aq,a1,bf,bg,a2,c,b,d,S⟩:=hI
    refine Ws<|Ws<|Wg<|M' a2<|M' aq<|Nq b<|La<|We ?_
    rcases condE z with ⟨bh,z⟩ | ⟨bh,z⟩
    ·refine CT bh<|Wk<|Ws<|Wb<|Ws<|Wg<|M' ay<|M' az<|M' a0<|M' aq<|M' a2<|B z fun cj ck z=>W.idx (α:=Str) b rfl rfl el34 ck ?_
     rintro dl _ cl rfl
     refine Lq S cl<|B z fun cm cn z=>W.call S rfl (zE3 S.holds o p q cj c cn) ?_
     rintro dm dn b0 bi S rfl
     have c:=c.up bi
     have b:=b.up bi
     have d:=d.up bi
     refine A<|We<|Ws<|Wg<|M' a1<|Nq d<|Le<|M ?_
     refine WL.grp 4 [51,52,53] 54 (boo (((x.length:Int)==0)||(decide (cm<aw)))) ?_ ?_
     ·rcases boolE ((x.length:Int)==0) with ac | ac
      ·refine Gn ac<|Gn ac<|Gn ac<|Pt ac ?_
       exact We ⟨(orT ac),ag,rfl⟩
      refine Gy ac<|M<|Gy ac<|M' bf<|Gy ac<|La<|Pf ac ?_
      exact We ⟨(orF ac),ag,rfl⟩
     intro us
     refine We ?_
     rcases condE z with ⟨bj,z⟩ | ⟨bj,z⟩
     ·refine CT bj<|Wg<|M' bg<|M<|Nj<|A<|We<|Wg<|M' a2<|Lg<|A<|We ?_
      cases z
      exact ⟨rfl,⟨b0,ay,az,a0,aq,a1,bf,rfl,rfl,c,b,d,S⟩⟩
     refine CF bj<|Wk<|Wg<|M' a2<|Lg<|A<|We ?_
     cases z
     exact ⟨rfl,⟨b0,ay,az,a0,aq,a1,bf,bg,rfl,c,b,d,S⟩⟩
    refine CF bh<|Wx ?_
    cases z
    obtain rfl:=ci
    exact ⟨al,ay,az,a0,aq,a1,bg,c,b,d,S⟩
   rintro f w ⟨aj,co,cp,cq,cr,b1,b2,c,b,d,S⟩
   refine Ws<|Ws<|Wg<|M' b2<|Lb<|We ?_
   rcases condE l with ⟨bk,l⟩ | ⟨bk,l⟩
   ·refine CT bk<|Wx ?_
    cases l
    obtain rfl:=bw
    exact ⟨aj,k,b1,d,S⟩
   refine CF bk<|Wk<|Ws<|Wg<|A<|We<|B l fun bn cs l=>WP.cut (fun f w=>∃ (am:Hp) (ar:Value),f 0=(int o)∧f 1=t∧f 2=(boo q)∧f 3=u∧f 9=ar∧Sl am t p∧Sl am u ab∧Sl am ar bn∧St w0 H0 w am [.row ar 9 1 bn.length]) ?_ ?_
   ·refine Wb ?_
    refine WP.loopM (zDC o p q ab ax) (fun s f w=>match s with | (bo,b3)=>∃ (an:Hp) (ao:Value),f 0=(int o)∧f 1=t∧f 2=(boo q)∧f 3=u∧f 9=ao∧f 11=(int ax)∧f 14=(int b3)∧Sl an t p∧Sl an u ab∧Sl an ao bo∧St w0 H0 w an [.row ao 9 1 bo.length]) (x,0) bn cs ?_ ?_
    ·exact ⟨aj,k,co,cp,cq,cr,b1,b2,rfl,c,b,d,S⟩
    intro s f w hI dp j ct
    obtain ⟨bo,b3⟩:=s
    obtain ⟨an,ao,a3,a4,a5,ap,bp,bq,au,c,b,af,S⟩:=hI
    refine Ws<|Ws<|Wg<|M' au<|M' ap<|Nq b<|La<|We ?_
    rcases condE j with ⟨br,j⟩ | ⟨br,j⟩
    ·refine CT br<|Wk<|Ws<|Wb<|Ws<|Wg<|M' a3<|M' a4<|M' a5<|M' ap<|M' au<|B j fun cu cv j=>W.idx (α:=Str) b rfl rfl el34 cv ?_
     rintro dq _ cw rfl
     refine Lq S cw<|B j fun dr cx j=>W.call S rfl (zE3 S.holds o p q cu c cx) ?_
     rintro ds dt cy bs S rfl
     have c:=c.up bs
     have b:=b.up bs
     have af:=af.up bs
     refine M' bq<|Le<|We ?_
     rcases condE j with ⟨bt,j⟩ | ⟨bt,j⟩
     ·refine CT bt<|Wg<|M' bp<|M' ap<|M' au<|B j fun b4 cz j=>W.idx (α:=Str) b rfl rfl el34 cz ?_
      rintro du _ c0 rfl
      refine Lq S c0<|W.bslice (α:=Str) [(str b4)] ([b4]:List Str) S el34 rfl rfl rfl (by decide) (Go.Eng.encS ⟨rfl,rfl⟩ enc0) ?_
      intro dw dx dy bu c1 S
      have c:=c.up bu
      have b:=b.up bu
      have af:=af.up bu
      refine B j fun dz c2 j=>W.app (α:=Str) (i:=1) S el34 rfl rfl rfl af c1 c2 ?_
      intro c3 d0 c4 bv c5 S
      have c:=c.up bv
      have b:=b.up bv
      have af:=af.up bv
      refine A<|We<|Wg<|M' au<|Lg<|A<|We ?_
      cases j
      exact ⟨rfl,⟨c4,c3,a3,a4,a5,ap,rfl,bq,rfl,c,b,c5,(S.drop _ (.cons _ (.cons_cons _ .slnil)))⟩⟩
     refine CF bt<|Wk<|Wg<|M' au<|Lg<|A<|We ?_
     cases j
     exact ⟨rfl,⟨cy,ao,a3,a4,a5,ap,bp,bq,rfl,c,b,af,S⟩⟩
    refine CF br<|Wx ?_
    cases j
    obtain rfl:=ct
    exact ⟨an,ao,a3,a4,a5,ap,bp,c,b,af,S⟩
   rintro f w ⟨am,ar,c6,c7,c8,c9,da,c,b,db,S⟩
   cases l
   exact ⟨rfl,⟨am,ar,c6,c7,c8,c9,da,c,b,db,S⟩⟩
  refine CF bc<|Wx ?_
  cases l
  obtain rfl:=bw
  exact ⟨H1,k,h9,d,S⟩
 rintro f w ⟨a7,av,dc,dd,S⟩
 refine Ws<|Wg<|M' dc<|A<|We ?_
 exact WP.ret (Rl h S dd)
theorem zLR {l:World} {d:Hp} (hw:Holds l d) (o:(List Str)) {j:Value} (c:Sl d j o) {r:Str} (h:zGb o=some r) :
  Cs Tryz.prog 116 [j] l d r:=by
 refine CM 22 Tryz.func116 hw fun S=>?_
 refine Ws<|Wg<|A<|We<|Ws<|Wg<|A<|We<|Ws<|Ws<|Wg<|A ?_
 refine We<|B h fun aa af h=>WP.cut (fun f w=>∃ (H7:Hp),f 3=(str aa)∧St l d w H7 []) ?_ ?_
 ·refine Wb ?_
  refine WP.loopM (zED o) (fun s f w=>match s with | (ac,t)=>∃ (k:Hp),f 0=j∧f 3=(str ac)∧f 4=(int t)∧Sl k j o∧St l d w k []) ([],0) aa af ?_ ?_
  ·exact ⟨d,rfl,rfl,rfl,c,S⟩
  intro s f w hI ap b ah
  obtain ⟨ac,t⟩:=s
  obtain ⟨k,u,v,p,c,S⟩:=hI
  refine Ws<|Ws<|Wg<|M' p<|M' u<|Nq c<|La<|We ?_
  rcases condE b with ⟨x,b⟩ | ⟨x,b⟩
  ·refine CT x<|Wk<|Ws<|Wb<|Ws<|Ws<|Wg<|M' p<|Lc<|We<|B b fun ai i b=>WP.cut (fun f w=>∃ (q:Hp),f 0=j∧f 3=(str ai)∧f 4=(int t)∧Sl q j o∧St l d w q []) ?_ ?_
   ·rcases condE i with ⟨z,i⟩ | ⟨z,i⟩
    ·refine CT z<|Wg<|M' v<|B i fun aq aj i=>Je aj<|A<|We ?_
     cases i
     exact ⟨k,u,rfl,p,c,S⟩
    refine CF z<|Wk ?_
    cases i
    exact ⟨k,u,v,p,c,S⟩
   rintro f w ⟨q,ad,ak,ae,c,S⟩
   refine Wg<|M' ak<|M' ad<|M' ae<|B b fun ar al b=>W.idx (α:=Str) c rfl rfl el34 al ?_
   rintro au _ am rfl
   refine Lq S am<|B b fun av an b=>Je an<|A<|We<|Wg<|M' ae<|Lg<|A<|We ?_
   cases b
   exact ⟨rfl,⟨q,ad,rfl,rfl,c,S⟩⟩
  refine CF x<|Wx ?_
  cases b
  obtain rfl:=ah
  exact ⟨k,v,S⟩
 rintro f w ⟨H7,h9,S⟩
 refine Ws<|Wg<|M' h9<|A<|We ?_
 exact WP.ret (Rs h S)
theorem zKP {u:World} {p:Hp} (hw:Holds u p) (c:GAxis) (ah:(List GField)) (x:Bool) {k:Value} {a1:Value} (b:Sl p k c.fValues) (l:Sl p a1 ah) {r:(List Str)} (h:zFy c ah x=some r) :
  Con Tryz.prog 88 [(agg [(str c.fName),k]),a1,(boo x)] u p (fun H' v=>Sl H' v r):=by
 refine CM 69 Tryz.func88 hw fun S=>?_
 refine Ws<|Wg ?_
 refine W.box [(str c.fName),k] S rfl rfl ?_
 intro z w2 S
 refine A<|We<|Ws<|Ws<|Wg ?_
 refine WL.w (R.loadBN (i:=0) (vs:=[(str c.fName),k]) S rfl rfl lay68 rfl rfl)<|B h fun r3 bd h=>W.call S rfl (zFz S.holds c b bd) ?_
 rintro v4 w5 H6 a2 S rfl
 have b:=b.up a2
 have l:=l.up a2
 refine No<|We ?_
 rcases condE h with ⟨an,h⟩ | ⟨an,h⟩
 ·refine CT an<|Ws<|Wg<|A<|We ?_
  exact WP.ret (Rl h S Sl.nil)
 refine CF an<|Wk<|Ws<|Wg<|A<|We<|Ws<|Ws<|Wg<|Fb ?_
 refine Lo 0 S<|B h fun r9 be h=>W.call S rfl (zGl S.holds c.fName be) ?_
 rintro cp cq cr a4 S rfl
 have b:=b.up a4
 have l:=l.up a4
 refine A<|We<|Ws<|Wg<|M<|Lf<|We ?_
 have S:=S.addNil 9 1
 refine B h fun ao d h=>WP.cut (fun f w=>∃ (ac:Hp) (ai:Value),f 2=(boo x)∧f 3=(ptr z 0)∧f 7=ai∧Sl ac ai ao∧Sl ac k c.fValues∧St u p w ac [.box z 68 [(str c.fName),k]]) ?_ ?_
 ·rcases condE d with ⟨ap,d⟩ | ⟨ap,d⟩
  ·refine CT ap<|Ws<|Wg<|M<|M<|B d fun a5 bf d=>W.call S rfl (zKT S.holds r9 ah l bf) ?_
   rintro cs ct cu a6 S ⟨cv,rfl,bg⟩
   have b:=b.up a6
   have l:=l.up a6
   refine M ?_
   refine Ex ?_
   refine Ex<|A<|A<|We<|Wg<|M<|M<|M<|Fb ?_
   refine Lo 1 S<|B d fun cw bh d=>W.call S rfl (zLL S.holds r9 a5.1 a5.2 c.fValues bg b bh) ?_
   rintro bi cx bj a7 S bk
   have b:=b.up a7
   have l:=l.up a7
   refine A<|We ?_
   cases d
   exact ⟨bj,bi,rfl,rfl,rfl,bk,b,(S.drop _ (.cons _ (.cons_cons _ .slnil)))⟩
  refine CF ap<|Ws<|Wg<|M<|Fb ?_
  refine Lo 1 S<|B d fun bn bo d=>W.call S rfl (zJR S.holds ah c.fName l bo) ?_
  rintro cy cz c0 bp S bq
  have b:=b.up bp
  refine B d fun aj br d=>W.call S rfl (zLR S.holds bn bq br) ?_
  rintro c1 c2 bs bt S rfl
  have b:=b.up bt
  refine A<|We<|Ws<|Wg<|A<|We<|B d fun aq bu d=>WP.cut (fun f w=>∃ (ad:Hp) (ae:Value),f 2=(boo x)∧f 3=(ptr z 0)∧f 7=ae∧Sl ad ae aq∧Sl ad k c.fValues∧St u p w ad [.row ae 9 1 aq.length,.box z 68 [(str c.fName),k]]) ?_ ?_
  ·refine Wb ?_
   refine WP.loopM (zCI c aj) (fun s f w=>match s with | (ar,a8)=>∃ (aa:Hp) (ab:Value),f 2=(boo x)∧f 3=(ptr z 0)∧f 7=ab∧f 11=(str aj)∧f 12=(int a8)∧Sl aa ab ar∧Sl aa k c.fValues∧St u p w aa [.row ab 9 1 ar.length,.box z 68 [(str c.fName),k]]) (([]:List Str),0) aq bu ?_ ?_
   ·exact ⟨bs,.slice none 0 0,rfl,rfl,rfl,rfl,rfl,Sl.nil,b,S⟩
   intro s f w hI c3 j bv
   obtain ⟨ar,a8⟩:=s
   obtain ⟨aa,ab,au,af,av,ak,al,q,b,S⟩:=hI
   refine Ws<|Ws<|Wg<|M' al<|Fb' af ?_
   refine Lo 1 S<|Nq b<|La<|We ?_
   rcases condE j with ⟨aw,j⟩ | ⟨aw,j⟩
   ·refine CT aw<|Wk<|Ws<|Wb<|Ws<|Wg<|Fb' af ?_
    refine Lo 1 S<|M' al<|B j fun c4 bw j=>W.idx (α:=Str) b rfl rfl el34 bw ?_
    rintro c5 _ bx rfl
    refine Lq S bx<|M' ak<|Na<|We ?_
    rcases condE j with ⟨ax,j⟩ | ⟨ax,j⟩
    ·refine CT ax<|Wg<|M' av<|M' ak<|W.bslice (α:=Str) [(str aj)] ([aj]:List Str) S el34 rfl rfl rfl (by decide) (Go.Eng.encS ⟨rfl,rfl⟩ enc0) ?_
     intro c6 c7 c8 a9 bz S
     have q:=q.up a9
     have b:=b.up a9
     refine B j fun c9 b0 j=>W.app (α:=Str) (i:=1) S el34 rfl rfl rfl q bz b0 ?_
     intro b2 da b3 ba b4 S
     have q:=q.up ba
     have b:=b.up ba
     refine A<|We<|Wg<|M' al<|Lg<|A<|We ?_
     cases j
     exact ⟨rfl,⟨b3,b2,au,af,rfl,ak,rfl,b4,b,(S.drop _ (.cons _ (.cons_cons _ (.cons_cons _ .slnil))))⟩⟩
    refine CF ax<|Wk<|Wg<|M' al<|Lg<|A<|We ?_
    cases j
    exact ⟨rfl,⟨aa,ab,au,af,av,ak,rfl,q,b,S⟩⟩
   refine CF aw<|Wx ?_
   cases j
   obtain rfl:=bv
   exact ⟨aa,ab,au,af,av,q,b,S⟩
  rintro f w ⟨ad,ae,b5,b6,b7,b8,b,S⟩
  cases d
  exact ⟨ad,ae,b5,b6,b7,b8,b,(S.drop _ (.cons _ (.cons_cons _ .slnil)))⟩
 rintro f w ⟨ac,ai,b9,ca,bb,am,b,S⟩
 refine Ws<|Ws<|Wg<|M' bb<|Nq am<|Le<|M ?_
 refine WL.grp 3 [60,61] 62 (boo (((ao.length:Int)==0)&&(!x))) ?_ ?_
 ·rcases boolE ((ao.length:Int)==0) with o | o
  ·refine Gy o<|M' b9<|Gy o<|No<|Pt o ?_
   exact We ⟨(andT o),ag,rfl⟩
  refine Gn o<|Gn o<|Pf o ?_
  exact We ⟨(andF o),ag,rfl⟩
 intro us
 refine We<|B h fun cb t h=>WP.cut (fun f w=>∃ (ay:Hp) (az:Value),f 7=az∧Sl ay az cb∧St u p w ay []) ?_ ?_
 ·rcases condE t with ⟨a0,t⟩ | ⟨a0,t⟩
  ·refine CT a0<|Wg<|Fb' ca ?_
   refine Lo 0 S<|B t fun bc cc t=>W.idx (α:=Str) b rfl rfl el34 cc ?_
   rintro db _ cd rfl
   refine Lq S cd<|W.bslice (α:=Str) [(str bc)] ([bc]:List Str) S el34 rfl rfl rfl (by decide) (Go.Eng.encS ⟨rfl,rfl⟩ enc0) ?_
   intro ce dc cf cg ch S
   have am:=am.up cg
   refine A<|We ?_
   cases t
   exact ⟨cf,ce,rfl,ch,(S.drop _ (.cons _ (.cons _ .slnil)))⟩
  refine CF a0<|Wk ?_
  cases t
  exact ⟨ac,ai,bb,am,(S.drop _ (.cons _ .slnil))⟩
 rintro f w ⟨ay,az,ci,cj,S⟩
 refine Ws<|Wg<|M' ci<|A<|We ?_
 exact WP.ret (Rl h S cj)
end Go.Proofs

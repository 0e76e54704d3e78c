/- A part. -/
import Derived.Test.YtipgfplekgdoiaaGreatDoorEng38
import Derived.Test.YtipgfplekgdoiaaGreatDoorEng33
import Derived.Test.YtipgfplekgdoiaaGreatDoorGenK6
namespace Go.Proofs
set_option maxHeartbeats 4000000
set_option maxRecDepth 10000
open Go.Eng Go.Eng.Pure
set_option linter.unusedVariables false
theorem zI6 {w0:World} {H0:Hp} (hw:Holds w0 H0) (ac:(List GAxis)) (a3:(List GField)) (a4:Bool) (al:Int) {o:Value} {bc:Value} (b:Sl H0 o ac) (ar:Sl H0 bc a3) {r:(List (List Str))} (h:zGB ac a3 a4 al=some r) :
  Con Tryz.prog 75 [o,bc,(boo a4),(int al)] w0 H0 (fun H' v=>Sl H' v r):=by
 refine CM 109 Tryz.func75 hw fun S=>?_
 refine Ws<|Wg<|A<|We<|Ws<|Ws<|Wg<|M<|B h fun r1 d5 h=>W.call S rfl (zCD S.holds ac b d5) ?_
 rintro v2 w3 H4 cu S rfl
 have b:=b.up cu
 have ar:=ar.up cu
 refine No<|We ?_
 rcases condE h with ⟨b0,h⟩ | ⟨b0,h⟩
 ·refine CT b0<|Ws<|Wg<|A<|We ?_
  exact WP.ret (Rl h S Sl.nil)
 refine CF b0<|Wk<|Ws<|Wg<|M<|Nq b<|B h fun l7 d8 h=>W.makeSlice (α:=(List Str)) (zv:=(.slice none 0 0)) (z:=([]:List Str)) S el33 rfl rfl rfl zer34 ⟨_,rfl,Sl.nil⟩ d8 ?_
 intro q w9 d9 p ea eb S
 refine A<|We<|Ws<|Ws<|Wg<|M<|Nq b<|M<|We<|B h fun b1 ec h=>WP.cut (fun f w=>match b1 with | .inl ad=>∃ (a5:Hp) (x:List Value),f 0=o∧f 3=(int al)∧f 9=(.slice (some ⟨q,0,none⟩) p p)∧Sl a5 o ac∧Ms a5 x ad∧ad.length=p∧St w0 H0 w a5 [.box q 34 x] | .inr _=>False) ?_ ?_
 ·refine Wb ?_
  refine WP.loopM (zBi ac a3 a4) (fun s f w=>match s with | (b2,bd)=>∃ (a0:Hp) (be:List Value),f 0=o∧f 1=bc∧f 2=(boo a4)∧f 3=(int al)∧f 9=(.slice (some ⟨q,0,none⟩) p p)∧f 24=o∧f 25=(int (ac.length:Int))∧f 26=(int b2)∧Sl a0 o ac∧Sl a0 bc a3∧Ms a0 be bd∧bd.length=p∧St w0 H0 w a0 [.box q 34 be]) (0,l7) b1 ec ?_ ?_
  ·exact ⟨H4,d9,rfl,rfl,rfl,rfl,rfl,rfl,rfl,rfl,b,ar,eb,ea,S⟩
  intro s f w hI gp k cv
  obtain ⟨b2,bd⟩:=s
  obtain ⟨a0,be,cw,cx,cy,cz,bf,c0,c1,bg,b,ar,bh,b3,S⟩:=hI
  refine Ws<|Wg<|La' bg c1<|We<|Ws ?_
  rcases condE k with ⟨b4,k⟩ | ⟨b4,k⟩
  ·refine CT b4<|Wk<|Ws<|Wb<|Ws<|Wg<|M' bg<|B k fun a6 ed k=>W.idx (α:=GAxis) b c0 bg el22 ed ?_
   rintro gq _ ee ⟨bi,rfl,c2⟩
   refine WL.w (R.loadHN (vs:=[(str a6.fName),bi]) S rfl ee lay68 rfl rfl) ?_
   refine W.alloc [(str []),(.slice none 0 0)] S zer68 ?_
   intro gr gs S
   refine A ?_
   refine W.store (i:=0) [(str a6.fName),bi] S rfl rfl rfl lay68 rfl (AllOne.all (l:=[(str a6.fName),bi]) (.cons rfl (.cons (Sl.oneC c2) .nil))) (Nat.le_of_ble_eq_true rfl) rfl ?_
   intro gt S
   refine We<|Ws<|Wg<|M' bf<|M ?_
   refine WL.w (R.loadBN (i:=0) (vs:=[(str a6.fName),bi]) S rfl rfl lay68 rfl rfl)<|M' cx<|M' cy<|B k fun gu ef k=>W.call S rfl (zIE S.holds a6 a3 a4 c2 ar ef) ?_
   rintro gv gw eg b5 S c3
   have b:=b.up b5
   have ar:=ar.up b5
   have bh:=Ms.mono bh b5
   refine B k fun gx eh k=>?_
   refine WL.w (R.idxM (α:=(List Str)) (xs:=bd) rfl b3 rfl el33 eh)<|B k fun ei c4 k=>?_
   refine W.storeM (α:=(List Str)) (i:=1) (m:=b2) S bh rfl rfl rfl lay34 (by obtain ⟨_,_,e9,_⟩:=c3; rw [e9]; rfl) ⟨_,rfl,c3⟩ c4 ?_
   intro gy ek c5 S
   have c6:=(zFs c4).1.trans b3
   refine We<|Ws<|Wg<|M' bf<|M<|B k fun gz c7 k=>?_
   refine WL.w (R.idxM (α:=(List Str)) (xs:=ei) rfl c6 rfl el33 c7) ?_
   obtain ⟨_,_,g0,el,em⟩:=Ms.get c5 c7
   obtain ⟨g1,b6,en⟩:=em
   replace b6:=(List.cons.inj b6).1
   subst b6
   refine WL.w (R.loadB (i:=1) S rfl rfl lay34 el)<|Nq en<|Le<|We ?_
   rcases condE k with ⟨b7,k⟩ | ⟨b7,k⟩
   ·refine CT b7<|Ws<|Wg<|A<|We ?_
    cases k
    obtain rfl:=cv
    exact WP.ret (Rl h S Sl.nil)
   refine CF b7<|Wk<|Wg<|Lg' bg rfl<|M<|We ?_
   cases k
   exact ⟨rfl,⟨eg,ek,cw,cx,cy,cz,bf,c0,c1,rfl,b,ar,c5,c6,(S.drop _ (.cons _ (.cons_cons _ .slnil)))⟩⟩
  refine CF b4<|Wx ?_
  cases k
  obtain rfl:=cv
  exact ⟨a0,be,cw,cz,bf,b,bh,b3,S⟩
 intro f w hM
 rcases b1 with ad | e
 ·obtain ⟨a5,x,c8,eo,ep,b,d,c9,S⟩:=hM
  refine Ws<|Wg<|A<|We<|Ws<|Wg<|M' c8<|Nq b<|B h fun eq er h=>W.makeSlice (α:=Int) (zv:=(int 0)) (z:=0) S el118 rfl rfl rfl zer3 rfl er ?_
  intro af g2 es t et eu S
  refine A<|We<|Ws ?_
  have S:=S.addNil 34 1
  refine B h fun b9 ew h=>WP.cut (fun f w=>∃ (ca:Hp) (bj:Value),f 12=bj∧Sl ca bj b9∧St w0 H0 w ca [.row bj 34 1 b9.length]) ?_ ?_
  ·refine Wb ?_
   refine WP.loopM (zBJ ac al ad) (fun s f w=>match s with | (au,ah)=>∃ (av:Hp) (ai:Value) (ao:List Value),f 0=o∧f 3=(int al)∧f 9=(.slice (some ⟨q,0,none⟩) p p)∧f 12=ai∧f 13=(.slice (some ⟨af,0,none⟩) t t)∧Sl av o ac∧Sl av ai au∧Ms av ao ah∧Ms av x ad∧ah.length=t∧St w0 H0 w av [.row ai 34 1 au.length,.box af 3 ao,.box q 34 x]) (([]:List (List Str)),eq) b9 ew ?_ ?_
   ·exact ⟨a5,.slice none 0 0,es,c8,eo,ep,rfl,rfl,b,Sl.nil,eu,d,et,S⟩
   intro s f w hI g3 j da
   obtain ⟨au,ah⟩:=s
   obtain ⟨av,ai,ao,db,dc,ex,cb,dd,b,aa,ae,d,bk,S⟩:=hI
   refine Ws<|Ws<|Wg<|M' cb<|Nq aa<|M' dc<|La<|We ?_
   rcases condE j with ⟨cc,j⟩ | ⟨cc,j⟩
   ·refine CT cc<|Wk<|Wb<|Ws<|Wg<|M' db<|Nq b<|B j fun ey ez j=>W.makeSlice (α:=Str) (zv:=(str [])) (z:=[]) S el34 rfl rfl rfl zer9 rfl ez ?_
    intro ay g4 e0 am e1 e2 S
    refine A<|We<|Ws<|Ws<|Wg<|M' dd ?_
    refine WL.w (v:=int (ah.length:Int)) (R.ofEq (R.lenV rfl Tryz.underlying118) (by rw [bk]))<|M<|We<|B j fun a7 e3 j=>WP.cut (fun f w=>∃ (az:Hp) (bn:List Value),f 0=o∧f 3=(int al)∧f 9=(.slice (some ⟨q,0,none⟩) p p)∧f 12=ai∧f 13=(.slice (some ⟨af,0,none⟩) t t)∧f 14=(.slice (some ⟨ay,0,none⟩) am am)∧Sl az o ac∧Sl az ai au∧Ms az bn a7∧Ms az ao ah∧Ms az x ad∧a7.length=am∧St w0 H0 w az [.box ay 9 bn,.row ai 34 1 au.length,.box af 3 ao,.box q 34 x]) ?_ ?_
    ·refine Wb ?_
     refine WP.loopM (zBh ad ah) (fun s f w=>match s with | (cd,bo)=>∃ (ap:Hp) (bp:List Value),f 0=o∧f 3=(int al)∧f 9=(.slice (some ⟨q,0,none⟩) p p)∧f 12=ai∧f 13=(.slice (some ⟨af,0,none⟩) t t)∧f 14=(.slice (some ⟨ay,0,none⟩) am am)∧f 55=(.slice (some ⟨af,0,none⟩) t t)∧f 56=(int (ah.length:Int))∧f 57=(int cd)∧Sl ap o ac∧Sl ap ai au∧Ms ap bp bo∧Ms ap ao ah∧Ms ap x ad∧bo.length=am∧St w0 H0 w ap [.box ay 9 bp,.row ai 34 1 au.length,.box af 3 ao,.box q 34 x]) (0,ey) a7 e3 ?_ ?_
     ·exact ⟨av,e0,db,dc,ex,cb,dd,rfl,rfl,rfl,rfl,b,aa,e2,ae,d,e1,S⟩
     intro s f w hI g5 u e4
     obtain ⟨cd,bo⟩:=s
     obtain ⟨ap,bp,de,df,ce,dh,di,cf,dj,dk,bq,b,aa,dl,ae,d,cg,S⟩:=hI
     refine Ws<|Wg<|La' bq dk<|We<|Ws ?_
     rcases condE u with ⟨ch,u⟩ | ⟨ch,u⟩
     ·refine CT ch<|Wk<|Ws<|Wb<|Ws<|Wg<|M' bq<|B u fun e5 dm u=>?_
      refine WL.w (R.idxM (α:=Int) (xs:=ah) dj bk bq el118 dm) ?_
      obtain ⟨_,_,e6,e7,e8⟩:=Ms.get ae dm
      obtain rfl:=(List.cons.inj (show [e6]=[(int e5)] from e8)).1
      refine WL.w (R.loadB (i:=2) S rfl rfl lay3 e7)<|A<|A<|We<|Wg<|M' cf<|M<|M' ce<|M<|B u fun g6 dn u=>?_
      refine WL.w (R.idxM (α:=(List Str)) (xs:=ad) rfl c9 rfl el33 dn) ?_
      obtain ⟨_,_,g7,fa,fb⟩:=Ms.get d dn
      obtain ⟨g8,ci,fc⟩:=fb
      replace ci:=(List.cons.inj ci).1
      subst ci
      refine WL.w (R.loadB (i:=3) S rfl rfl lay34 fa)<|M<|B u fun g9 fd u=>W.idx (α:=Str) fc rfl rfl el34 fd ?_
      rintro ha _ fe rfl
      refine Lq S fe<|B u fun hb ff u=>?_
      refine WL.w (R.idxM (α:=Str) (xs:=bo) rfl cg rfl el34 ff)<|B u fun hc dp u=>?_
      refine W.storeM (α:=Str) (i:=0) (m:=cd) S dl rfl rfl rfl lay9 rfl rfl dp ?_
      intro he fg fh S
      have fi:=(zFs dp).1.trans cg
      refine We<|Wg<|Lg' bq rfl<|M<|We ?_
      cases u
      exact ⟨rfl,⟨ap,fg,de,df,ce,dh,di,cf,dj,dk,rfl,b,aa,fh,ae,d,fi,S⟩⟩
     refine CF ch<|Wx ?_
     cases u
     obtain rfl:=e4
     exact ⟨ap,bp,de,df,ce,dh,di,cf,b,aa,dl,ae,d,cg,S⟩
    rintro f w ⟨az,bn,fj,fk,fl,fm,dq,fn,b,aa,cj,ae,d,fo,S⟩
    refine Ws<|Wg<|M' fm<|M' fn ?_
    obtain ⟨ck,a8,fp,_,S⟩:=S.settle (i:=0) rfl
    replace S:St w0 H0 _ ck [.row ai 34 1 au.length,.box af 3 ao,.box q 34 x]:=S
    have fq:At ck ⟨ay,0,none⟩ bn:=⟨_,_,rfl,fp,[],by simp⟩
    have b:=b.up a8
    have aa:=aa.up a8
    have cj:=Ms.mono cj a8
    have ae:=Ms.mono ae a8
    have d:=Ms.mono d a8
    have cl:Sl ck (.slice (some ⟨ay,0,none⟩) am am) a7:=Ms.sl cj fo fq
    refine W.bslice (α:=(List Str)) [(.slice (some ⟨ay,0,none⟩) am am)] ([a7]:List (List Str)) S el33 rfl rfl rfl (by decide) (Go.Eng.encS ⟨(by rw [Sl.cellsOne cl]; rfl),_,(by rw [Sl.cellsOne cl]),cl⟩ enc0) ?_
    intro hf hg hh br fr S
    have b:=b.up br
    have aa:=aa.up br
    have ae:=Ms.mono ae br
    have d:=Ms.mono d br
    refine B j fun bs fs j=>W.app (α:=(List Str)) (i:=1) S el33 rfl rfl rfl aa fr fs ?_
    intro aw hi ft bt aq S
    have b:=b.up bt
    have aa:=aa.up bt
    have ae:=Ms.mono ae bt
    have d:=Ms.mono d bt
    refine A<|We<|Ws<|Wg<|M' dq ?_
    refine WL.w (v:=int (ah.length:Int)) (R.ofEq (R.lenV rfl Tryz.underlying118) (by rw [bk]))<|Lh<|A<|We<|Ws<|B j fun cm fu j=>WP.cut (fun f w=>match cm with | (cn,a9)=>∃ (ax:Hp) (co:List Value),f 0=o∧f 3=(int al)∧f 9=(.slice (some ⟨q,0,none⟩) p p)∧f 12=aw∧f 13=(.slice (some ⟨af,0,none⟩) t t)∧f 17=(int cn)∧Sl ax o ac∧Sl ax aw bs∧Ms ax co a9∧Ms ax x ad∧a9.length=t∧St w0 H0 w ax [.row aw 34 1 bs.length,.box af 3 co,.box q 34 x]) ?_ ?_
    ·refine Wb ?_
     refine WP.loopM (zBg ad) (fun s f w=>match s with | (bu,ba)=>∃ (a1:Hp) (bv:List Value),f 0=o∧f 3=(int al)∧f 9=(.slice (some ⟨q,0,none⟩) p p)∧f 12=aw∧f 13=(.slice (some ⟨af,0,none⟩) t t)∧f 17=(int bu)∧Sl a1 o ac∧Sl a1 aw bs∧Ms a1 bv ba∧Ms a1 x ad∧ba.length=t∧St w0 H0 w a1 [.row aw 34 1 bs.length,.box af 3 bv,.box q 34 x]) (wr ((ah.length:Int) - 1),ah) cm fu ?_ ?_
     ·exact ⟨ft,ao,fj,fk,fl,rfl,dq,rfl,b,aq,ae,d,bk,(S.drop _ (.cons _ (.cons_cons _ (.cons_cons _ (.cons_cons _ .slnil)))))⟩
     intro s f w hI hj ak fv
     obtain ⟨bu,ba⟩:=s
     obtain ⟨a1,bv,dr,ds,cp,dt,bw,a2,b,aq,bb,d,bx,S⟩:=hI
     refine Ws<|Ws<|WP.quiet S kr kr<|QM' a2<|QLd<|QM<|B ak fun fw an ak=>WQ.grp 12 [83,84,85,86,87,88,89,90,91,92,93] 94 (boo fw) ?_ ?_
     ·rcases boolE (decide (0≤bu)) with c | c
      ·replace an:=condT an c
       refine QGy c<|QM' bw<|QGy c<|QM' a2<|QGy c<|B an fun fx du an=>?_
       refine WQ.val (fun _ _=>(R.idxM (α:=Int) (xs:=ba) rfl bx rfl el118 du))<|QGy c ?_
       obtain ⟨_,_,fy,fz,f0⟩:=Ms.get bb du
       obtain rfl:=(List.cons.inj (show [fy]=[(int fx)] from f0)).1
       refine WQ.val (fun w hw=>by obtain ⟨_,hq,S⟩:=hw; exact (R.loadB (i:=1) S rfl rfl lay3 fz))<|QGy c<|QM' cp<|QGy c<|QM' a2<|QGy c<|B an fun hk dw an=>?_
       refine WQ.val (fun _ _=>(R.idxM (α:=(List Str)) (xs:=ad) rfl c9 rfl el33 dw))<|QGy c ?_
       obtain ⟨_,_,hl,f1,f2⟩:=Ms.get d dw
       obtain ⟨hm,cq,f3⟩:=f2
       replace cq:=(List.cons.inj cq).1
       subst cq
       refine WQ.val (fun w hw=>by obtain ⟨_,hq,S⟩:=hw; exact (R.loadB (i:=2) S rfl rfl lay34 f1))<|QGy c<|QNq f3<|QGy c<|QLh<|QGy c<|QLe<|QPt c ?_
       exact WQ.nil ⟨(ob an),ag⟩
      replace an:=condF an c
      refine QGn c<|QGn c<|QGn c<|QGn c<|QGn c<|QGn c<|QGn c<|QGn c<|QGn c<|QGn c<|QGn c<|QPf c ?_
      exact WQ.nil ⟨(ob an),ag⟩
     intro us
     refine WQ.nil ?_
     intro hn dx bz S
     have b:=b.up bz
     have aq:=aq.up bz
     have bb:=Ms.mono bb bz
     have d:=Ms.mono d bz
     rcases condE ak with ⟨cr,ak⟩ | ⟨cr,ak⟩
     ·refine CT cr<|Wk<|Wb<|Ws<|Wg<|M' bw<|M' a2<|B ak fun ho f4 ak=>?_
      refine WL.w (R.idxM (α:=Int) (xs:=ba) rfl bx rfl el118 f4)<|B ak fun hp dy ak=>?_
      refine W.storeM (α:=Int) (i:=1) (m:=bu) S bb rfl rfl rfl lay3 rfl rfl dy ?_
      intro hr f5 f6 S
      have f7:=(zFs dy).1.trans bx
      refine We<|Wg<|M' a2<|Lh<|A<|We ?_
      cases ak
      exact ⟨rfl,⟨dx,f5,dr,ds,cp,dt,bw,rfl,b,aq,f6,d,f7,S⟩⟩
     refine CF cr<|Wx ?_
     cases ak
     obtain rfl:=fv
     exact ⟨dx,bv,dr,ds,cp,dt,bw,a2,b,aq,bb,d,bx,S⟩
    intro f w hM
    obtain ⟨cn,a9⟩:=cm
    obtain ⟨ax,co,f8,f9,ga,dz,d0,d1,b,aq,d2,d,cs,S⟩:=hM
    refine Ws<|Ws<|Wg<|M' d1<|La<|We ?_
    rcases condE j with ⟨ct,j⟩ | ⟨ct,j⟩
    ·refine CT ct<|Wx ?_
     cases j
     obtain rfl:=da
     exact ⟨ax,aw,dz,aq,(S.drop _ (.cons_cons _ (.cons _ (.cons _ .slnil))))⟩
    refine CF ct<|Wk<|Wg<|M' d0<|M' d1<|B j fun gb d3 j=>?_
    refine WL.w (R.idxM (α:=Int) (xs:=a9) rfl cs rfl el118 d3) ?_
    obtain ⟨_,_,gc,gd,ge⟩:=Ms.get d2 d3
    obtain rfl:=(List.cons.inj (show [gc]=[(int gb)] from ge)).1
    refine WL.w (R.loadB (i:=1) S rfl rfl lay3 gd)<|Lg<|B j fun hs gf j=>?_
    refine WL.w (R.idxM (α:=Int) (xs:=a9) rfl cs rfl el118 gf)<|B j fun ht d4 j=>?_
    refine W.storeM (α:=Int) (i:=1) (m:=cn) S d2 rfl rfl rfl lay3 rfl rfl d4 ?_
    intro hu gg gh S
    have gi:=(zFs d4).1.trans cs
    refine We ?_
    cases j
    exact ⟨rfl,⟨ax,aw,gg,f8,f9,ga,dz,d0,b,aq,gh,d,gi,S⟩⟩
   refine CF cc<|Wx ?_
   cases j
   obtain rfl:=da
   exact ⟨av,ai,cb,aa,(S.drop _ (.cons_cons _ (.cons _ (.cons _ .slnil))))⟩
  rintro f w ⟨ca,bj,gj,gk,S⟩
  refine Ws<|Wg<|M' gj<|A<|We ?_
  exact WP.ret (Rl h S gk)
 exact hM.elim
theorem zI0 {j:World} {b:Hp} (hw:Holds j b) (c:(List GAxis)) (d:(List GField)) (f:Bool) {k:Value} {l:Value} (q:Sl b k c) (t:Sl b l d) {r:((List Str)×Bool)} (h:zEn c d f=some r) :
  Con Tryz.prog 37 [k,l,(boo f)] j b (fun H' v=>∃ o:Value,v=(.tuple ⟨[o,(boo r.2)]⟩)∧Sl H' o r.1):=by
 refine CM 19 Tryz.func37 hw fun S=>?_
 refine Ws<|Wg<|A<|A<|We<|Ws<|Wg<|M<|M<|M<|B h fun r1 u h=>W.call S rfl (zI6 S.holds c d f 1 q t u) ?_
 rintro v2 w3 H4 af S p
 refine A<|We<|Ws<|Ws<|Wg<|M<|Nq p<|Le<|We ?_
 rcases condE h with ⟨i,h⟩ | ⟨i,h⟩
 ·refine CT i<|Ws<|Wg<|A<|A<|We ?_
  cases h
  refine WP.ret (Out.two rfl S rfl rfl ?_)
  exact ⟨_,rfl,Sl.nil⟩
 refine CF i<|Wk<|Ws<|Wg<|M<|B h fun x8 x h=>W.idx (α:=(List Str)) p rfl rfl el33 x ?_
 rintro a9 _ z ⟨aj,rfl,aa⟩
 refine Lq S z<|A<|A<|We ?_
 cases h
 refine WP.ret (Out.two rfl S rfl rfl ?_)
 exact ⟨_,rfl,aa⟩
theorem zG8 {f:World} {i:Hp} (hw:Holds f i) (b:Str) (c:Str) (d:Str) {r:Bool} (h:zEP b c d=some r) :
  Cb Tryz.prog 112 [(str b),(str c),(str d)] f i r:=by
 refine CM 29 Tryz.func112 hw fun S=>?_
 refine Ws<|Wg<|A<|We<|Ws<|Wg<|M<|B h fun j k h=>W.call S rfl (zFA S.holds b k) ?_
 rintro p q t u S rfl
 refine A<|We<|Ws<|Wg<|M<|M<|B h fun v l h=>W.invoke S rfl rfl (zCQ S.holds j c l) ?_
 rintro x z H9 ab S rfl
 refine M ?_
 refine Ex ?_
 refine Ex<|A<|A<|We<|Ws<|Wg<|M<|M<|B h fun ac o h=>W.invoke S rfl rfl (zCQ S.holds j d o) ?_
 rintro ad ae af ah S rfl
 refine M ?_
 refine Ex ?_
 refine Ex<|A<|A<|We<|Ws<|Wg<|M<|M<|Na<|A ?_
 refine We ?_
 exact WP.ret (Rb h S)
theorem zGS {d ws:World} {f Hs:Hp} {j:List Ent} (k:Str) (l:Str) (o:(List GAxis)) (b:Int) {p:Value} {c:Nat} {q:Addr} (S:St d f ws Hs (.box c 3 [(int b)] :: j)) (t:At Hs q [p]) (u:Sl Hs p o) {r:(Bool×Int)} (h:zDS k l o b=some r) :
  ConS Tryz.prog 111 [(str k),(str l),(ptr c 0),(.pointer (some q))] d f ws Hs j (fun H' v L'=>L'=[.box c 3 [(int r.2)]]∧v=(boo r.1)):=by
 refine ConS.mk (N:=17) Tryz.func111 rfl rfl kr rfl<|Ws<|Wg<|A<|We<|Ws<|Wg ?_
 refine Lo 0 S<|Lg ?_
 refine W.store (i:=0) [(int (wr (b+1)))] S rfl rfl rfl lay3 rfl rfl (Nat.le_of_ble_eq_true rfl) rfl ?_
 intro w1 S
 refine We<|Ws<|Wg ?_
 refine Lq S t ?_
 refine Lo 0 S<|B h fun x z h=>W.idx (α:=GAxis) u rfl rfl el22 z ?_
 rintro a3 _ aa ⟨v5,rfl,R6⟩
 refine Fc ?_
 have ab:=At.add aa 0 (by simp)
 refine Lq S ab<|M<|M<|B h fun r8 ac h=>W.call S rfl (zG8 S.holds x.fName k l ac) ?_
 rintro v9 am ad ae S rfl
 refine A<|We ?_
 cases h
 have S3:=S
 have S3:=S3.front 0 rfl
 replace S3:St d f _ ad (.box c 3 [(int (wr (b+1)))] :: j):=S3.drop _ (.cons_cons _ (.refl _))
 refine WP.ret (OutS.one (L':=[.box c 3 [(int (wr (b+1)))]]) rfl ae S3 rfl ?_)
 exact ⟨rfl,rfl⟩
theorem zB6 {d ws:World} {i Hs:Hp} {j:List Ent} (u:(List Str)) (z:(List Str)) (p:(List GAxis)) (x:Int) {aa:Value} {ab:Value} {vq00:Value} {b:Nat} {aq0:Addr} (S:St d i ws Hs (.box b 3 [(int x)] :: j)) (l:Sl Hs aa u) (o:Sl Hs ab z) (Aq0:At Hs aq0 [vq00]) (Rq00:Sl Hs vq00 p) {r:(Bool×Int)} (h:zAs u z p x=some r) :
  ConS Tryz.prog 110 [aa,ab,(.func (.func 111) #[] [(ptr b 0),(.pointer (some aq0))].toArray)] d i ws Hs j (fun H' v L'=>L'=[.box b 3 [(int r.2)]]∧v=(boo r.1)):=by
 refine ConS.mk (N:=32) Tryz.func110 rfl rfl kr rfl<|Ws<|Wg<|A<|We<|Ws<|Ws<|Wg<|M<|Nq l<|M<|Nq o ?_
 refine Lf<|We ?_
 rcases condE h with ⟨af,h⟩ | ⟨af,h⟩
 ·refine CT af<|Ws<|Wg<|A<|We ?_
  cases h
  have S3:=S
  have S3:=S3.front 0 rfl
  replace S3:St d i _ Hs (.box b 3 [(int x)] :: j):=S3.drop _ (.cons_cons _ (.refl _))
  refine WP.ret (OutS.one (L':=[.box b 3 [(int x)]]) rfl lr S3 rfl ?_)
  exact ⟨rfl,rfl⟩
 refine CF af<|Wk<|Ws<|Ws<|Wg<|M<|Nq l<|M<|We<|B h fun ah av h=>WP.cut (fun f w=>match ah with | .inl ac=>∃ (q:Hp),f 2=(.func (.func 111) #[] [(ptr b 0),(.pointer (some aq0))].toArray)∧At q aq0 [vq00]∧Sl q vq00 p∧Hp.le Hs q∧St d i w q (.box b 3 [(int ac)] :: j) | .inr _=>False) ?_ ?_
 ·refine Wb ?_
  refine WP.loopM (zAM u z p) (fun s f w=>match s with | (ao,m9)=>∃ (k:Hp),f 1=ab∧f 2=(.func (.func 111) #[] [(ptr b 0),(.pointer (some aq0))].toArray)∧f 15=aa∧f 16=(int (u.length:Int))∧f 17=(int ao)∧Sl k ab z∧At k aq0 [vq00]∧Sl k vq00 p∧Sl k aa u∧Hp.le Hs k∧St d i w k (.box b 3 [(int m9)] :: j)) (0,x) ah av ?_ ?_
  ·exact ⟨Hs,rfl,rfl,rfl,rfl,rfl,o,Aq0,Rq00,l,lr,S⟩
  intro s f w hI a4 c ap
  obtain ⟨ao,m9⟩:=s
  obtain ⟨k,h3,h4,h5,h6,h8,o,Aq0,Rq00,l,aj,S⟩:=hI
  refine Ws<|Wg<|La' h8 h6<|We<|Ws ?_
  rcases condE c with ⟨ak,c⟩ | ⟨ak,c⟩
  ·refine CT ak<|Wk<|Ws<|Wb<|Ws<|Wg<|M' h8<|B c fun aw ax c=>W.idx (α:=Str) l h5 h8 el34 ax ?_
   rintro a5 _ ay rfl
   refine Lq S ay<|A<|A<|We<|Ws<|Wg<|M' h3<|M<|B c fun az a0 c=>W.idx (α:=Str) o rfl rfl el34 a0 ?_
   rintro a6 _ a1 rfl
   refine Lq S a1<|A<|We<|Ws<|Wg<|M' h4<|M<|M ?_
   replace S:St d i _ k (.box b 3 [(int m9)] :: j):=S
   refine B c fun al a2 c=>W.callvS rfl rfl (zGS aw az p m9 S Aq0 Rq00 a2) ?_
   rintro a7 a8 am a9 t S ⟨rfl,rfl⟩
   replace S:St d i _ am (.box b 3 [(int al.2)] :: j):=S
   have o:=o.up t
   have Aq0:=At.mono Aq0 t (by simp)
   have Rq00:=Rq00.up t
   have l:=l.up t
   refine No<|We ?_
   rcases condE c with ⟨an,c⟩ | ⟨an,c⟩
   ·refine CT an<|Ws<|Wg<|A<|We ?_
    cases c
    obtain rfl:=ap
    cases h
    have S3:=S
    have S3:=S3.front 0 rfl
    replace S3:St d i _ am (.box b 3 [(int al.2)] :: j):=S3.drop _ (.cons_cons _ (.refl _))
    refine WP.ret (OutS.one (L':=[.box b 3 [(int al.2)]]) rfl (aj.trans t) S3 rfl ?_)
    exact ⟨rfl,rfl⟩
   refine CF an<|Wk<|Wg<|Lg' h8 rfl<|M<|We ?_
   cases c
   exact ⟨rfl,⟨am,h3,h4,h5,h6,rfl,o,Aq0,Rq00,l,(aj.trans t),S⟩⟩
  refine CF ak<|Wx ?_
  cases c
  obtain rfl:=ap
  exact ⟨k,h4,Aq0,Rq00,aj,S⟩
 intro f w hM
 rcases ah with ac | e
 ·obtain ⟨q,ba,Aq0,Rq00,a3,S⟩:=hM
  refine Ws<|Wg<|A<|We ?_
  cases h
  have S3:=S
  have S3:=S3.front 0 rfl
  replace S3:St d i _ q (.box b 3 [(int ac)] :: j):=S3.drop _ (.cons_cons _ (.refl _))
  refine WP.ret (OutS.one (L':=[.box b 3 [(int ac)]]) rfl a3 S3 rfl ?_)
  exact ⟨rfl,rfl⟩
 exact hM.elim
theorem zIc {c:World} {b:Hp} (hw:Holds c b) (l:(List GAxis)) (o:(List Str)) (p:(List Str)) {f:Value} {x:Value} {z:Value} (d:Sl b f l) (j:Sl b x o) (q:Sl b z p) {r:Bool} (h:zEK l o p=some r) :
  Cb Tryz.prog 78 [f,x,z] c b r:=by
 refine CM 17 Tryz.func78 hw fun S=>?_
 refine Ws<|Wg ?_
 refine W.box [f] S rfl (congrArg Array.toList (Sl.cellsOne d)) ?_
 intro b1 w2 S
 refine A<|We<|Ws<|Ws<|Wg<|M<|Nq j ?_
 refine Lo 0 S<|Nq d<|Lf<|We ?_
 rcases condE h with ⟨t,h⟩ | ⟨t,h⟩
 ·refine CT t<|Ws<|Wg<|A<|We ?_
  exact WP.ret (Rb h S)
 refine CF t<|Wk<|Ws<|Wg ?_
 refine W.alloc [(int 0)] S zer3 ?_
 intro k w5 S
 refine W.store (i:=0) [(int (-1))] S rfl rfl rfl lay3 rfl rfl (Nat.le_of_ble_eq_true rfl) rfl ?_
 intro w6 S
 refine We<|Ws<|Wg<|M<|M ?_
 obtain ⟨u,v,ab,_,S⟩:=S.settle (i:=1) rfl
 replace S:St c b _ u [.box k 3 [(int (-1))]]:=S
 have ac:At u ⟨b1,0,none⟩ [f]:=⟨_,_,rfl,ab,[],by simp⟩
 have d:=d.up v
 have j:=j.up v
 have q:=q.up v
 refine WL.w (R.mkFunc (vs:=[(ptr k 0),(.pointer (some ⟨b1,0,none⟩))]) rfl) ?_
 replace S:St c b _ u [.box k 3 [(int (-1))]]:=S
 refine B h fun ad ae h=>W.callS rfl (zB6 o p l (-1) S j q ac d ae) ?_
 rintro ak al af am an S ⟨rfl,rfl⟩
 replace S:St c b _ af [.box k 3 [(int ad.2)]]:=S
 refine A<|We ?_
 exact WP.ret (Rb h S)
theorem zKb {i:World} {b:Hp} (hw:Holds i b) (c:(List Str)) (d:(List GAxis)) (f:(List Str)) {j:Value} {k:Value} {l:Value} {o:Addr} {p:Addr} (q:Sl b j c) (t:At b o [k]) (u:Sl b k d) (v:At b p [l]) (x:Sl b l f) {r:Bool} (h:zFd c d f=some r) :
  Cb Tryz.prog 77 [j,(.pointer (some o)),(.pointer (some p))] i b r:=by
 refine CM 9 Tryz.func77 hw fun S=>?_
 refine Ws<|Wg<|A<|We<|Ws<|Wg ?_
 refine Lq S t<|M ?_
 refine Lq S v<|B h fun r1 z h=>W.call S rfl (zIc S.holds d c f u q x z) ?_
 rintro v2 w3 H4 ae S rfl
 refine A<|We ?_
 exact WP.ret (Rb h S)
theorem zDb {j:World} {c:Hp} (hw:Holds j c) (i:(List (List Str))) (o:((List Str)→Option Bool)) {k:Value} {kp_f:FuncId} {cp_f:List Value} (d:Sl c k i) (Fp_f:∀ {w:World} {H:Hp},c.le H→Holds w H→∀ (x:(List Str)),∀ {z:Value},Sl H z x→∀ (rr:Bool),o x=some rr→Con Tryz.prog kp_f ([z]++cp_f) w H (fun H' v=>v=(boo rr))) {r:Int} (h:zA5 i o=some r) :
  Ci Tryz.prog 109 [k,(.func (.func kp_f) #[] cp_f.toArray)] j c r:=by
 refine CM 19 Tryz.func109 hw fun S=>?_
 refine Ws<|Wg<|A<|We<|Ws<|Ws<|Wg<|M<|Nq d<|M<|We<|B h fun p ah h=>WP.cut (fun f w=>match p with | .inl _=>∃ (H7:Hp),St j c w H7 [] | .inr _=>False) ?_ ?_
 ·refine Wb ?_
  refine WP.loopM (zAS i o) (fun s f w=>match s with | ab=>∃ (l:Hp),f 0=k∧f 1=(.func (.func kp_f) #[] cp_f.toArray)∧f 7=(int (i.length:Int))∧f 8=(int ab)∧Sl l k i∧St j c w l []) 0 p ah ?_ ?_
  ·exact ⟨c,rfl,rfl,rfl,rfl,d,S⟩
  intro ab f w hI y8 b ac
  obtain ⟨l,h2,h3,h4,q,d,S⟩:=hI
  refine Ws<|Wg<|La' q h4<|We<|Ws ?_
  rcases condE b with ⟨t,b⟩ | ⟨t,b⟩
  ·refine CT t<|Wk<|Ws<|Wb<|Ws<|Wg<|M' q<|A<|We<|Ws<|Wg<|M' h3 ?_
   refine M' h2<|M<|B b fun ai aj b=>W.idx (α:=(List Str)) d rfl rfl el33 aj ?_
   rintro aq _ ak ⟨ar,rfl,al⟩
   refine Lq S ak<|B b fun au am b=>W.callv S rfl rfl (Fp_f (S.post.le) S.holds ai al _ am) ?_
   rintro av aw an ao S rfl
   have d:=d.up ao
   refine We ?_
   rcases condE b with ⟨u,b⟩ | ⟨u,b⟩
   ·refine CT u<|Ws<|Wg<|M<|A<|We ?_
    cases b
    obtain rfl:=ac
    exact WP.ret (Ri h S)
   refine CF u<|Wk<|Wg<|Lg' q rfl<|M<|We ?_
   cases b
   exact ⟨rfl,⟨an,h2,h3,h4,rfl,d,S⟩⟩
  refine CF t<|Wx ?_
  cases b
  obtain rfl:=ac
  exact ⟨l,S⟩
 intro f w hM
 rcases p with _ | e
 ·obtain ⟨H7,S⟩:=hM
  refine Ws<|Wg<|A<|We ?_
  exact WP.ret (Ri h S)
 exact hM.elim
theorem zAy {f:World} {b:Hp} (hw:Holds f b) (c:(List (List Str))) (d:((List Str)→Option Bool)) {i:Value} {kp_f:FuncId} {cp_f:List Value} (l:Sl b i c) (Fp_f:∀ {w:World} {H:Hp},b.le H→Holds w H→∀ (j:(List Str)),∀ {k:Value},Sl H k j→∀ (rr:Bool),d j=some rr→Con Tryz.prog kp_f ([k]++cp_f) w H (fun H' v=>v=(boo rr))) {r:Bool} (h:zAO c d=some r) :
  Cb Tryz.prog 76 [i,(.func (.func kp_f) #[] cp_f.toArray)] f b r:=by
 refine CM 9 Tryz.func76 hw fun S=>?_
 refine Ws<|Wg<|A<|We<|Ws<|Wg<|M<|M<|B h fun p o h=>W.call S rfl (zDb S.holds c d l (fun hle=>Fp_f (Hp.le.trans S.post.le hle)) o) ?_
 rintro q t u x S rfl
 refine Ld<|A<|We ?_
 exact WP.ret (Rb h S)
theorem zJK {t:World} {c:Hp} (hw:Holds t c) (u:(List GAxis)) (b:GEntry) (v:(List Str)) {x:Value} {j:Value} {k:Value} {l:Value} {o:Value} {p:Value} (d:Sl c x u) (q:Sl c j b.fKeys) (ao:Sl c k b.fVary) (ap:Sl c l b.fSnapshot) (aq:Sl c o b.fFields) (f:Sl c p v) {r:Bool} (h:zHd u b v=some r) :
  Cb Tryz.prog 39 [x,(agg [j,k,l,(str b.fReason),o,(str b.fBody),(int b.fRequested),(int b.fReceived)]),p] t c r:=by
 refine CM 11 Tryz.func39 hw fun S=>?_
 refine Ws<|Wg ?_
 refine W.box [x] S rfl (congrArg Array.toList (Sl.cellsOne d)) ?_
 intro b1 w2 S
 refine W.box [j,k,l,(str b.fReason),o,(str b.fBody),(int b.fRequested),(int b.fReceived)] S rfl rfl ?_
 intro b3 w4 S
 refine W.box [p] S rfl (congrArg Array.toList (Sl.cellsOne f)) ?_
 intro b5 w6 S
 refine A<|We<|Ws<|Wg<|Fb ?_
 refine Lo 1 S ?_
 obtain ⟨H7,ab,aj,_,S⟩:=S.settle (i:=2) rfl
 replace S:St t c _ H7 [.box b5 34 [p],.box b3 36 [j,k,l,(str b.fReason),o,(str b.fBody),(int b.fRequested),(int b.fReceived)]]:=S
 have ac:At H7 ⟨b1,0,none⟩ [x]:=⟨_,_,rfl,aj,[],by simp⟩
 have d:=d.up ab
 have q:=q.up ab
 have f:=f.up ab
 obtain ⟨ai,z,ak,_,S⟩:=S.settle (i:=0) rfl
 replace S:St t c _ ai [.box b3 36 [j,k,l,(str b.fReason),o,(str b.fBody),(int b.fRequested),(int b.fReceived)]]:=S
 have al:At ai ⟨b5,0,none⟩ [p]:=⟨_,_,rfl,ak,[],by simp⟩
 have d:=d.up z
 have q:=q.up z
 have f:=f.up z
 have ac:=At.mono ac z (by simp)
 refine WL.w (R.mkFunc (vs:=[(.pointer (some ⟨b1,0,none⟩)),(.pointer (some ⟨b5,0,none⟩))]) rfl)<|B h fun aw am h=>W.call S rfl (zAy S.holds b.fKeys (fun x0=>zFd x0 u v) q (fun hle hw x0=>fun q0 r h=>zKb hw x0 u v q0 (At.mono ac hle (by simp)) (d.up hle) (At.mono al hle (by simp)) (f.up hle) h) am) ?_
 rintro ax ay az a0 S rfl
 refine A<|We ?_
 exact WP.ret (Rb h S)
theorem zJ9 {p:World} {c:Hp} (hw:Holds p c) (b:GEntry) (d:GTable) (o:(List Str)) {f:Value} {j:Value} {k:Value} {l:Value} {q:Value} {t:Value} {u:Value} {v:Addr} {x:Addr} (z:Sl c f b.fKeys) (aa:Sl c j b.fVary) (ab:Sl c k b.fSnapshot) (ac:Sl c l b.fFields) (ad:At c v [q,t]) (ae:Sl c q d.fAxes) (ak:Sl c t d.fEntries) (af:At c x [u]) (ah:Sl c u o) {r:Bool} (h:zFq b d o=some r) :
  Cb Tryz.prog 38 [(agg [f,j,k,(str b.fReason),l,(str b.fBody),(int b.fRequested),(int b.fReceived)]),(.pointer (some v)),(.pointer (some x))] p c r:=by
 refine CM 10 Tryz.func38 hw fun S=>?_
 refine Ws<|Wg ?_
 refine W.box [f,j,k,(str b.fReason),l,(str b.fBody),(int b.fRequested),(int b.fReceived)] S rfl rfl ?_
 intro b1 w2 S
 refine A<|We<|Ws<|Wg<|Fc ?_
 have ai:=At.add ad 0 (by simp)
 refine Lq S ai ?_
 refine WL.w (R.loadBN (i:=0) (vs:=[f,j,k,(str b.fReason),l,(str b.fBody),(int b.fRequested),(int b.fReceived)]) S rfl rfl lay36 rfl rfl) ?_
 refine Lq S af<|B h fun r4 aj h=>W.call S rfl (zJK S.holds d.fAxes b o ae z aa ab ac ah aj) ?_
 rintro v5 w6 H7 ar S rfl
 refine A<|We ?_
 exact WP.ret (Rb h S)
theorem zIb {p:World} {d:Hp} (hw:Holds p d) (f:GTable) (q:(List GField)) (aa:Bool) {t:Value} {u:Value} {l:Value} (b:Sl d t f.fAxes) (c:Sl d u f.fEntries) (j:Sl d l q) {r:(Int×Bool)} (h:zFW f q aa=some r) :
  Con Tryz.prog 11 [(agg [t,u]),l,(boo aa)] p d (fun H' v=>v=(.tuple ⟨[(int r.1),(boo r.2)]⟩)):=by
 refine CM 32 Tryz.func11 hw fun S=>?_
 refine Ws<|Wg ?_
 refine W.box [t,u] S rfl rfl ?_
 intro b1 w2 S
 refine W.box [l] S rfl (congrArg Array.toList (Sl.cellsOne j)) ?_
 intro x w4 S
 refine A<|A<|We<|Ws<|Ws<|Wg<|Fb ?_
 refine Lo 1 S<|Nq b<|Le<|We ?_
 rcases condE h with ⟨ac,h⟩ | ⟨ac,h⟩
 ·refine CT ac<|Ws<|Wg<|Fb ?_
  refine Lo 1 S ?_
  obtain ⟨H6,ad,aw,_,S⟩:=S.settle (i:=0) rfl
  replace S:St p d _ H6 [.box b1 25 [t,u]]:=S
  have ax:At H6 ⟨x,0,none⟩ [l]:=⟨_,_,rfl,aw,[],by simp⟩
  have b:=b.up ad
  have c:=c.up ad
  have j:=j.up ad
  refine WL.w (R.mkFunc (vs:=[(.pointer (some ⟨x,0,none⟩))]) rfl)<|B h fun a6 ay h=>W.call S rfl (zGg S.holds f.fEntries (fun k=>zFt k q) c (fun hle hw k=>fun ae af ah ai r h=>zKI hw k q ae af ah ai (At.mono ax hle (by simp)) (j.up hle) h) ay) ?_
  rintro a7 a8 a9 aj S rfl
  have b:=b.up aj
  have c:=c.up aj
  have j:=j.up aj
  refine A<|A<|We ?_
  cases h
  refine WP.ret (Out.two rfl S rfl rfl ?_)
  exact rfl
 refine CF ac<|Wk<|Ws<|Wg<|Fb ?_
 refine Lo 1 S ?_
 refine Lo 0 S<|M<|B h fun aq az h=>W.call S rfl (zI0 S.holds f.fAxes q aa b j az) ?_
 rintro ba bb bc ar S ⟨ak,rfl,o⟩
 have b:=b.up ar
 have c:=c.up ar
 refine M ?_
 refine Ex ?_
 refine Ex ?_
 refine W.alloc [(.slice none 0 0)] S zer34 ?_
 intro al bd S
 refine W.storeSl (α:=Str) (i:=0) [ak] S o rfl rfl rfl lay34 (Nat.le_of_ble_eq_true rfl) rfl ?_
 intro be S
 refine A<|We<|Ws<|Ws<|Wg<|M<|No<|We ?_
 rcases condE h with ⟨am,h⟩ | ⟨am,h⟩
 ·refine CT am<|Ws<|Wg<|A<|A<|We ?_
  cases h
  refine WP.ret (Out.two rfl S rfl rfl ?_)
  exact rfl
 refine CF am<|Wk<|Ws<|Wg<|Fb ?_
 refine Lo 2 S ?_
 obtain ⟨au,an,a0,_,S⟩:=S.settle (i:=2) rfl
 replace S:St p d _ au [.box al 34 [ak],.box x 26 [l]]:=S
 have ao:At au ⟨b1,0,none⟩ [t,u]:=⟨_,_,rfl,a0,[],by simp⟩
 have b:=b.up an
 have c:=c.up an
 have o:=o.up an
 obtain ⟨av,z,a1,_,S⟩:=S.settle (i:=0) rfl
 replace S:St p d _ av [.box x 26 [l]]:=S
 have a2:At av ⟨al,0,none⟩ [ak]:=⟨_,_,rfl,a1,[],by simp⟩
 have b:=b.up z
 have c:=c.up z
 have ao:=At.mono ao z (by simp)
 have o:=o.up z
 refine WL.w (R.mkFunc (vs:=[(.pointer (some ⟨b1,0,none⟩)),(.pointer (some ⟨al,0,none⟩))]) rfl)<|B h fun bf a3 h=>W.call S rfl (zGg S.holds f.fEntries (fun k=>zFq k f aq.1) c (fun hle hw k=>fun ae af ah ai r h=>zJ9 hw k f aq.1 ae af ah ai (At.mono ao hle (by simp)) (b.up hle) (c.up hle) (At.mono a2 hle (by simp)) (o.up hle) h) a3) ?_
 rintro bg bh bi bj S rfl
 refine A<|A<|We ?_
 cases h
 refine WP.ret (Out.two rfl S rfl rfl ?_)
 exact rfl
theorem zIZ {p:World} {o:Hp} (hw:Holds p o) (b:UInt8) {r:Bool} (h:zEM b=some r) :
  Cb Tryz.prog 148 [(byt b)] p o r:=by
 refine CM 34 Tryz.func148 hw fun S=>?_
 refine Ws<|Wg<|A<|We<|Ws<|Ws<|Wg<|M<|Md b 97<|M ?_
 refine WL.grp 3 [7,8] 9 (boo ((decide (97≤b))&&(decide (b≤122)))) ?_ ?_
 ·rcases boolE (decide (97≤b)) with j | j
  ·refine Gy j<|M<|Gy j<|Mb b 122<|Pt j ?_
   exact We ⟨(andT j),ag,rfl⟩
  refine Gn j<|Gn j<|Pf j ?_
  exact We ⟨(andF j),ag,rfl⟩
 intro us
 refine M ?_
 refine WL.grp 7 [11,12,13,14,15,16] 17 (boo (((decide (97≤b))&&(decide (b≤122)))||((decide (65≤b))&&(decide (b≤90))))) ?_ ?_
 ·rcases boolE ((decide (97≤b))&&(decide (b≤122))) with c | c
  ·refine Gn c<|Gn c<|Gn c<|WL.gund rfl rfl<|WL.gund rfl rfl<|Gn c<|Pt c ?_
   exact We ⟨(orT c),ag,rfl⟩
  refine Gy c<|M<|Gy c<|Md b 65<|Gy c<|M ?_
  refine WL.grp 3 [14,15] 16 (boo ((decide (65≤b))&&(decide (b≤90)))) ?_ ?_
  ·rcases boolE (decide (65≤b)) with k | k
   ·refine Gy k<|M<|Gy k<|Mb b 90<|Gy c<|Pt k ?_
    exact We ⟨(andT k),ag,rfl⟩
   refine Gn k<|Gn k<|Gy c<|Pf k ?_
   exact We ⟨(andF k),ag,rfl⟩
  intro us
  refine Pf c ?_
  exact We ⟨(orF c),ag,rfl⟩
 intro us
 refine M ?_
 refine WL.grp 7 [19,20,21,22,23,24] 25 (boo ((((decide (97≤b))&&(decide (b≤122)))||((decide (65≤b))&&(decide (b≤90))))||((decide (48≤b))&&(decide (b≤57))))) ?_ ?_
 ·rcases boolE (((decide (97≤b))&&(decide (b≤122)))||((decide (65≤b))&&(decide (b≤90)))) with d | d
  ·refine Gn d<|Gn d<|Gn d<|WL.gund rfl rfl<|WL.gund rfl rfl<|Gn d<|Pt d ?_
   exact We ⟨(orT d),ag,rfl⟩
  refine Gy d<|M<|Gy d<|Md b 48<|Gy d<|M ?_
  refine WL.grp 3 [22,23] 24 (boo ((decide (48≤b))&&(decide (b≤57)))) ?_ ?_
  ·rcases boolE (decide (48≤b)) with l | l
   ·refine Gy l<|M<|Gy l<|Mb b 57<|Gy d<|Pt l ?_
    exact We ⟨(andT l),ag,rfl⟩
   refine Gn l<|Gn l<|Gy d<|Pf l ?_
   exact We ⟨(andF l),ag,rfl⟩
  intro us
  refine Pf d ?_
  exact We ⟨(orF d),ag,rfl⟩
 intro us
 refine We ?_
 rcases condE h with ⟨t,h⟩ | ⟨t,h⟩
 ·refine CT t<|Ws<|Wg<|A<|We ?_
  exact WP.ret (Rb h S)
 refine CF t<|Wk<|Ws<|Ws<|Wg<|A<|We<|B h fun u ae h=>WP.cut (fun f w=>match u with | .inl _=>∃ (aa:Hp),St p o w aa [] | .inr _=>False) ?_ ?_
 ·refine Wb ?_
  refine WP.loopM (zCq b) (fun s f w=>match s with | ab=>∃ (q:Hp),f 0=(byt b)∧f 3=(int ab)∧St p o w q []) 0 u ae ?_ ?_
  ·exact ⟨o,rfl,rfl,S⟩
  intro ab f w hI ai i ac
  obtain ⟨q,ad,v,S⟩:=hI
  refine Ws<|Ws<|Wg<|M' v<|La<|We ?_
  rcases condE i with ⟨x,i⟩ | ⟨x,i⟩
  ·refine CT x<|Wk<|Ws<|Wb<|Ws<|Wg<|M' v<|B i fun af ah i=>Ja ah<|M' ad<|Me af b<|We ?_
   rcases condE i with ⟨z,i⟩ | ⟨z,i⟩
   ·refine CT z<|Ws<|Wg<|A<|We ?_
    cases i
    obtain rfl:=ac
    exact WP.ret (Rb h S)
   refine CF z<|Wk<|Wg<|M' v<|Lg<|A<|We ?_
   cases i
   exact ⟨rfl,⟨q,ad,rfl,S⟩⟩
  refine CF x<|Wx ?_
  cases i
  obtain rfl:=ac
  exact ⟨q,S⟩
 intro f w hM
 rcases u with _ | e
 ·obtain ⟨aa,S⟩:=hM
  refine Ws<|Wg<|A<|We ?_
  exact WP.ret (Rb h S)
 exact hM.elim
theorem zA4 {i:World} {c:Hp} (hw:Holds i c) (d:Str) {r:Bool} (h:zA6 d=some r) :
  Cb Tryz.prog 123 [(str d)] i c r:=by
 refine CM 17 Tryz.func123 hw fun S=>?_
 refine Ws<|Wg<|A<|We<|Ws<|Ws<|Wg<|A<|We<|B h fun k x h=>WP.cut (fun f w=>match k with | .inl _=>∃ (t:Hp),f 0=(str d)∧St i c w t [] | .inr _=>False) ?_ ?_
 ·refine Wb ?_
  refine WP.loopM (zDl d) (fun s f w=>match s with | u=>∃ (l:Hp),f 0=(str d)∧f 3=(int u)∧St i c w l []) 0 k x ?_ ?_
  ·exact ⟨c,rfl,rfl,S⟩
  intro u f w hI y7 b v
  obtain ⟨l,j,o,S⟩:=hI
  refine Ws<|Ws<|Wg<|M' o<|M' j<|Ns<|La<|We ?_
  rcases condE b with ⟨p,b⟩ | ⟨p,b⟩
  ·refine CT p<|Wk<|Ws<|Wb<|Ws<|Wg<|M' j<|M' o<|B b fun z aa b=>Ja aa<|B b fun af ab b=>W.call S rfl (zIZ S.holds z ab) ?_
   rintro ah ai ac aj S rfl
   refine No<|We ?_
   rcases condE b with ⟨q,b⟩ | ⟨q,b⟩
   ·refine CT q<|Ws<|Wg<|A<|We ?_
    cases b
    obtain rfl:=v
    exact WP.ret (Rb h S)
   refine CF q<|Wk<|Wg<|M' o<|Lg<|A<|We ?_
   cases b
   exact ⟨rfl,⟨ac,j,rfl,S⟩⟩
  refine CF p<|Wx ?_
  cases b
  obtain rfl:=v
  exact ⟨l,j,S⟩
 intro f w hM
 rcases k with _ | e
 ·obtain ⟨t,h6,S⟩:=hM
  refine Ws<|Wg<|M' h6<|Nb<|A<|We ?_
  exact WP.ret (Rb h S)
 exact hM.elim
end Go.Proofs

/- A part. -/
import Derived.Test.YtffangblkofjdaaGreatDoorEng38
import Derived.Test.YtffangblkofjdaaGreatDoorEng35
import Derived.Test.YtffangblkofjdaaGreatDoorGenM4
namespace Go.Proofs
set_option maxHeartbeats 4000000
set_option maxRecDepth 10000
open Go Go.Eng Go.VI Go.Eng.Pure
set_option linter.unusedVariables false
set_option maxRecDepth 10000
set_option maxHeartbeats 4000000
theorem c133:FE.ok (U:=UU) Tryz.prog ⟨133,[.str],[.int,.int,.str,.int],fun x=>zCC x⟩:=@fun w H az x y hw hg b hT h=>by
 obtain ⟨c,rfl,d⟩:=hT
 obtain rfl:c=_:=d
 exact (zFM hw b x h).mono (fun _ _ e=>⟨[_,_,_,_],e,_,_,rfl,rfl,⟨_,_,rfl,rfl,⟨_,_,rfl,rfl,⟨_,rfl,rfl⟩⟩⟩⟩)
end Go.Proofs
namespace Go.Proofs
open Go.Eng Go.Eng.Pure
set_option linter.unusedVariables false
theorem zPJ:fld Tryz.prog 25 0=some 0:=by kernel_rfl
instance:Fld Tryz.prog 25 0 0:=⟨zPJ⟩
theorem lay22:lay Tryz.prog 22=some (false,1):=by kernel_rfl
instance:Lay Tryz.prog 22 (false,1):=⟨lay22⟩
theorem zMk:fld Tryz.prog 25 1=some 1:=by kernel_rfl
instance:Fld Tryz.prog 25 1 1:=⟨zMk⟩
theorem lay23:lay Tryz.prog 23=some (false,1):=by kernel_rfl
instance:Lay Tryz.prog 23 (false,1):=⟨lay23⟩
theorem el23:Elem Tryz.prog 23 38 8:=zEu kr
theorem lay38:lay Tryz.prog 38=some (true,8):=by kernel_rfl
instance:Lay Tryz.prog 38 (true,8):=⟨lay38⟩
theorem zHV {j:World} {d:Hp} (hw:Holds j d) (hG:Tryz.Gl j) (k:(List GEntry)) (u:(GEntry→Option Bool)) {o:Value} {kp_test:FuncId} {cp_test:List Value} (i:Sl d o k) (Fp_test:∀ {w:World} {H:Hp},d.le H→Holds w H→Tryz.Gl w→∀ (c:GEntry),∀ {ab ac ad ae:Value},Sl H ab c.fKeys→Sl H ac c.fVary→Sl H ad c.fSnapshot→Sl H ae c.fFields→∀ (rr:Bool),u c=some rr→Con Tryz.prog kp_test ([(agg [ab,ac,ad,(str c.fReason),ae,(str c.fBody),(int c.fRequested),(int c.fReceived)])]++cp_test) w H (fun H' v=>v=(boo rr))) {r:Int} (h:zE7 k u=some r) :
  Ci Tryz.prog 16 [o,(.func (.func kp_test) #[] cp_test.toArray)] j d r:=by
 refine CM 20 Tryz.func16 hw fun S=>?_
 refine Ws<|Wg<|A<|We<|Ws<|Ws<|Wg<|M<|Nq i<|Lh<|A<|We<|B h fun x al h=>WP.cut (fun f w=>match x with | .inl _=>∃ (H6:Hp),St j d w H6 [] | .inr _=>False) ?_ ?_
 ·refine Wb ?_
  refine WP.loopM (zCO k u) (fun s f w=>match s with | ah=>∃ (p:Hp),f 0=o∧f 1=(.func (.func kp_test) #[] cp_test.toArray)∧f 5=(int ah)∧Sl p o k∧St j d w p []) (wr ((k.length:Int) - 1)) x al ?_ ?_
  ·exact ⟨d,rfl,rfl,rfl,i,S⟩
  intro ah f w hI y7 b ai
  obtain ⟨p,h2,h3,t,i,S⟩:=hI
  refine Ws<|Ws<|Wg<|M' t<|Ld<|We ?_
  rcases condE b with ⟨z,b⟩ | ⟨z,b⟩
  ·refine CT z<|Wk<|Ws<|Wb<|Ws<|Wg<|M' h3<|M' h2<|M' t<|B b fun l am b=>W.idx (α:=GEntry) i rfl rfl el23 am ?_
   rintro a3 _ an ⟨ao,ap,aq,au,rfl,av,aw,ax,ay⟩
   refine WL.w (R.loadHN (vs:=[ao,ap,aq,(str l.fReason),au,(str l.fBody),(int l.fRequested),(int l.fReceived)]) S rfl an lay38 rfl rfl)<|B b fun a4 az b=>W.callv S rfl rfl (Fp_test (S.post.le) S.holds (hG.post S.post) l av aw ax ay _ az) ?_
   rintro a5 a6 a0 a1 S rfl
   have i:=i.up a1
   refine We ?_
   rcases condE b with ⟨aa,b⟩ | ⟨aa,b⟩
   ·refine CT aa<|Ws<|Wg<|M' t<|A<|We ?_
    obtain rfl:=oi b
    obtain rfl:=ai
    exact WP.ret (Ri h S)
   refine CF aa<|Wk<|Wg<|M' t<|Lh<|A<|We ?_
   obtain rfl:=oi b
   exact ⟨rfl,⟨a0,h2,h3,rfl,i,S⟩⟩
  refine CF z<|Wx ?_
  obtain rfl:=oi b
  obtain rfl:=ai
  exact ⟨p,S⟩
 intro f w hM
 rcases x with _ | e
 ·obtain ⟨H6,S⟩:=hM
  refine Ws<|Wg<|A<|We ?_
  exact WP.ret (Ri h S)
 exact hM.elim
theorem zRd:fld Tryz.prog 38 1=some 1:=by kernel_rfl
instance:Fld Tryz.prog 38 1 1:=⟨zRd⟩
theorem zSE:fld Tryz.prog 38 2=some 2:=by kernel_rfl
instance:Fld Tryz.prog 38 2 2:=⟨zSE⟩
theorem lay26:lay Tryz.prog 26=some (false,1):=by kernel_rfl
instance:Lay Tryz.prog 26 (false,1):=⟨lay26⟩
end Go.Proofs
namespace Go.Proofs
open Go Go.Eng Go.VI Go.Eng.Pure
set_option linter.unusedVariables false
set_option maxRecDepth 10000
set_option maxHeartbeats 4000000
theorem c89:FE.ok (U:=UU) Tryz.prog ⟨89,[.str,(.sl (.st 41))],[.str],fun x=>zGU x.1 x.2⟩:=mk (fcons c103 (fcons c80 (fcons c55 (fcons c54 (fcons c51 (fcons c50 (fcons c25 anil))))))) (.e) Tryz.func89
theorem c40:FE.ok (U:=UU) Tryz.prog ⟨40,[(.sl .str),(.sl (.st 41))],[(.sl .str)],fun x=>zEB x.1 x.2⟩:=mk (fcons c89 anil) (.n .e (.n .e (.n (.n .e (.lp ⟨[⟨.sl 5,(.sl .str),some 9⟩,⟨.sl 10,.int,none⟩],some [],[]⟩ (some ⟨[⟨.sl 5,(.sl .str),some 9⟩],some [],[]⟩) false .e)) .e))) Tryz.func40
theorem c18:FE.ok (U:=UU) Tryz.prog ⟨18,[(.sl .str),(.sl .str),(.sl (.st 41))],[.boo],fun x=>zFC x.1 x.2.1 x.2.2⟩:=mk (fcons c40 (fcons c39 anil)) (.e) Tryz.func18
theorem zKp {c:World} {b:Hp} (hw:Holds c b) (hG:Tryz.Gl c) (d:(List Str)) (f:(List Str)) (i:(List GField)) {j:Value} {k:Value} {l:Value} (o:Sl b j d) (p:Sl b k f) (t:Sl b l i) {r:Bool} (h:zFC d f i=some r) :
  Cb Tryz.prog 18 [j,k,l] c b r:=by
 refine (c18 (xs:=(d,f,i)) (y:=r) hw (fun _ _ e=>by cases e) hG ⟨_,_,rfl,o,⟨_,_,rfl,p,⟨_,rfl,t⟩⟩⟩ h).mono ?_
 rintro _ v ⟨_,rfl,D⟩
 obtain ⟨u,rfl,x⟩:=D
 obtain rfl:u=_:=x
 exact rfl
end Go.Proofs
namespace Go.Proofs
open Go.Eng Go.Eng.Pure
set_option linter.unusedVariables false
theorem zJL {d:World} {c:Hp} (hw:Holds d c) (hG:Tryz.Gl d) (b:GEntry) (f:(List GField)) {i:Value} {j:Value} {k:Value} {l:Value} {o:Value} {p:Addr} (aa:Sl c i b.fKeys) (t:Sl c j b.fVary) (u:Sl c k b.fSnapshot) (ab:Sl c l b.fFields) (v:At c p [o]) (x:Sl c o f) {r:Bool} (h:zEn b f=some r) :
  Cb Tryz.prog 17 [(agg [i,j,k,(str b.fReason),l,(str b.fBody),(int b.fRequested),(int b.fReceived)]),(.pointer (some p))] d c r:=by
 refine CM 10 Tryz.func17 hw fun S=>?_
 refine Ws<|Wg ?_
 refine W.box [i,j,k,(str b.fReason),l,(str b.fBody),(int b.fRequested),(int b.fReceived)] S rfl rfl ?_
 intro b1 w2 S
 refine A<|We<|Ws<|Wg<|Fb ?_
 refine Lo 0 S<|Fb ?_
 refine Lo 0 S ?_
 refine Lq S v<|B h fun r3 z h=>W.call S rfl (zKp S.holds (hG.post S.post) b.fVary b.fSnapshot f t u x z) ?_
 rintro v4 w5 H6 aj S rfl
 refine A<|We ?_
 exact WP.ret (Rb h S)
theorem el35:Elem Tryz.prog 35 36 1:=zEu kr
theorem zer36:zer Tryz.prog 36=some [(.slice none 0 0)]:=by kernel_rfl
theorem zH2 {w0:World} {H0:Hp} (hw:Holds w0 H0) (hG:Tryz.Gl w0) (ad:(List GAxis)) (a5:(List GField)) (a6:Bool) (am:Int) {o:Value} {bd:Value} (b:Sl H0 o ad) (av:Sl H0 bd a5) {r:(List (List Str))} (h:zDj ad a5 a6 am=some r) :
  Con Tryz.prog 41 [o,bd,(boo a6),(int am)] w0 H0 (fun H' v=>Sl H' v r):=by
 refine CM 109 Tryz.func41 hw fun S=>?_
 refine Ws<|Wg<|A<|We<|Ws<|Ws<|Wg<|M<|B h fun r1 ec h=>W.call S rfl (zE1 S.holds (hG.post S.post) ad b ec) ?_
 rintro v2 w3 H4 ee S rfl
 have ⟨b,av⟩:=U2 ee b av
 refine No<|We ?_
 rcases condE h with ⟨b0,h⟩ | ⟨b0,h⟩
 ·refine CT b0<|Ws<|Wg<|A<|We ?_
  exact WP.ret (Rl h S Sl.nil)
 refine CF b0<|Wk<|Ws<|Wg<|M<|Nq b<|B h fun l7 eg h=>W.makeSlice (α:=(List Str)) (zv:=(.slice none 0 0)) (z:=([]:List Str)) S el35 rfl rfl rfl zer36 ⟨_,rfl,Sl.nil⟩ eg ?_
 intro t w9 eh p ei ej S
 refine A<|We<|Ws<|Ws<|Wg<|M<|Nq b<|M<|We<|B h fun b1 ek h=>WP.cut (fun f w=>match b1 with | .inl ae=>∃ (a7:Hp) (aa:List Value),f 0=o∧f 3=(int am)∧f 9=(.slice (some ⟨t,0,none⟩) p p)∧Sl a7 o ad∧Ms a7 aa ae∧ae.length=p∧St w0 H0 w a7 [.box t 36 aa] | .inr _=>False) ?_ ?_
 ·refine Wb ?_
  refine WP.loopM (zBH ad a5 a6) (fun s f w=>match s with | (b2,be)=>∃ (a2:Hp) (bf:List Value),f 0=o∧f 1=bd∧f 2=(boo a6)∧f 3=(int am)∧f 9=(.slice (some ⟨t,0,none⟩) p p)∧f 24=o∧f 25=(int (ad.length:Int))∧f 26=(int b2)∧Sl a2 o ad∧Sl a2 bd a5∧Ms a2 bf be∧be.length=p∧St w0 H0 w a2 [.box t 36 bf]) (0,l7) b1 ek ?_ ?_
  ·exact ⟨H4,eh,rfl,rfl,rfl,rfl,rfl,rfl,rfl,rfl,b,av,ej,ei,S⟩
  intro s f w hI gy k cw
  obtain ⟨b2,be⟩:=s
  obtain ⟨a2,bf,cx,cy,cz,c0,bg,c1,c2,bh,b,av,bi,b3,S⟩:=hI
  refine Ws<|Wg<|La' bh c2<|We<|Ws ?_
  rcases condE k with ⟨b4,k⟩ | ⟨b4,k⟩
  ·refine CT b4<|Wk<|Ws<|Wb<|Ws<|Wg<|M' bh<|B k fun a8 el k=>W.idx (α:=GAxis) b c1 bh el22 el ?_
   rintro gz _ em ⟨bj,rfl,c3⟩
   refine WL.w (R.loadHN (vs:=[(str a8.fName),bj]) S rfl em lay62 rfl rfl) ?_
   refine W.alloc [(str []),(.slice none 0 0)] S zer62 ?_
   intro g0 g1 S
   refine A ?_
   refine W.store (i:=0) [(str a8.fName),bj] S rfl rfl rfl lay62 rfl (AllOne.all (l:=[(str a8.fName),bj]) (.cons rfl (.cons (Sl.oneC c3) .nil))) (Nat.le_of_ble_eq_true kr) rfl ?_
   intro g2 S
   refine We<|Ws<|Wg<|M' bg<|M ?_
   refine WL.w (R.loadBN (i:=0) (vs:=[(str a8.fName),bj]) S rfl rfl lay62 rfl rfl)<|M' cy<|M' cz<|B k fun g3 en k=>W.call S rfl (zEZ S.holds (hG.post S.post) a8 a5 a6 c3 av en) ?_
   rintro g4 g5 eo c7 S da
   have ⟨b,av⟩:=U2 c7 b av
   have bi:=Ms.mono bi c7
   refine B k fun g6 ep k=>?_
   refine WL.w (R.idxM (α:=(List Str)) (xs:=be) rfl b3 rfl el35 ep)<|B k fun eq db k=>?_
   refine W.storeM (α:=(List Str)) (i:=1) (m:=b2) S bi rfl rfl rfl lay36 (by obtain ⟨_,_,e9,_⟩:=da; rw [e9]; rfl) ⟨_,rfl,da⟩ db ?_
   intro g7 es dc S
   have dd:=(zEp db).1.trans b3
   refine We<|Ws<|Wg<|M' bg<|M<|B k fun g8 de k=>?_
   refine WL.w (R.idxM (α:=(List Str)) (xs:=eq) rfl dd rfl el35 de) ?_
   obtain ⟨_,_,g9,et,eu⟩:=Ms.get dc de
   obtain ⟨ha,b5,ew⟩:=eu
   replace b5:=(List.cons.inj b5).1
   subst b5
   refine WL.w (R.loadB (i:=1) S rfl rfl lay36 et)<|Nq ew<|Le<|We ?_
   rcases condE k with ⟨b6,k⟩ | ⟨b6,k⟩
   ·refine CT b6<|Ws<|Wg<|A<|We ?_
    obtain rfl:=oi k
    obtain rfl:=cw
    exact WP.ret (Rl h S Sl.nil)
   refine CF b6<|Wk<|Wg<|Lg' bh rfl<|M<|We ?_
   obtain rfl:=oi k
   exact ⟨rfl,⟨eo,es,cx,cy,cz,c0,bg,c1,c2,rfl,b,av,dc,dd,(S.pk [1])⟩⟩
  refine CF b4<|Wx ?_
  obtain rfl:=oi k
  obtain rfl:=cw
  exact ⟨a2,bf,cx,c0,bg,b,bi,b3,S⟩
 intro f w hM
 rcases b1 with ae | e
 ·obtain ⟨a7,aa,df,ex,ey,b,d,dh,S⟩:=hM
  refine Ws<|Wg<|A<|We<|Ws<|Wg<|M' df<|Nq b<|B h fun ez e0 h=>W.makeSlice (α:=Int) (zv:=(int 0)) (z:=0) S el167 rfl rfl rfl zer3 rfl e0 ?_
  intro ai hb e1 u e2 e3 S
  refine A<|We<|Ws ?_
  have S:=S.addNil 36 1
  refine B h fun b7 e4 h=>WP.cut (fun f w=>∃ (b9:Hp) (bn:Value),f 12=bn∧Sl b9 bn b7∧St w0 H0 w b9 [.row bn 36 1 b7.length]) ?_ ?_
  ·refine Wb ?_
   refine WP.loopM (zA3 ad am ae) (fun s f w=>match s with | (aw,aj)=>∃ (ax:Hp) (ak:Value) (ap:List Value),f 0=o∧f 3=(int am)∧f 9=(.slice (some ⟨t,0,none⟩) p p)∧f 12=ak∧f 13=(.slice (some ⟨ai,0,none⟩) u u)∧Sl ax o ad∧Sl ax ak aw∧Ms ax ap aj∧Ms ax aa ae∧aj.length=u∧St w0 H0 w ax [.row ak 36 1 aw.length,.box ai 3 ap,.box t 36 aa]) (([]:List (List Str)),ez) b7 e4 ?_ ?_
   ·exact ⟨a7,.slice none 0 0,e1,df,ex,ey,rfl,rfl,b,Sl.nil,e3,d,e2,S⟩
   intro s f w hI hc j di
   obtain ⟨aw,aj⟩:=s
   obtain ⟨ax,ak,ap,dj,dk,e5,ca,dl,b,ab,af,d,bo,S⟩:=hI
   refine Ws<|Ws<|Wg<|M' ca<|Nq ab<|M' dk<|La<|We ?_
   rcases condE j with ⟨cb,j⟩ | ⟨cb,j⟩
   ·refine CT cb<|Wk<|Wb<|Ws<|Wg<|M' dj<|Nq b<|B j fun e6 e7 j=>W.makeSlice (α:=Str) (zv:=(str [])) (z:=[]) S el36 rfl rfl rfl zer9 rfl e7 ?_
    intro a0 he e8 an fa fb S
    refine A<|We<|Ws<|Ws<|Wg<|M' dl ?_
    refine WL.w (v:=int (aj.length:Int)) (R.ofEq (R.lenV rfl Tryz.underlying167) (by rw [bo]))<|M<|We<|B j fun a9 fc j=>WP.cut (fun f w=>∃ (a1:Hp) (bp:List Value),f 0=o∧f 3=(int am)∧f 9=(.slice (some ⟨t,0,none⟩) p p)∧f 12=ak∧f 13=(.slice (some ⟨ai,0,none⟩) u u)∧f 14=(.slice (some ⟨a0,0,none⟩) an an)∧Sl a1 o ad∧Sl a1 ak aw∧Ms a1 bp a9∧Ms a1 ap aj∧Ms a1 aa ae∧a9.length=an∧St w0 H0 w a1 [.box a0 9 bp,.row ak 36 1 aw.length,.box ai 3 ap,.box t 36 aa]) ?_ ?_
    ·refine Wb ?_
     refine WP.loopM (zBK ae aj) (fun s f w=>match s with | (cc,bq)=>∃ (aq:Hp) (br:List Value),f 0=o∧f 3=(int am)∧f 9=(.slice (some ⟨t,0,none⟩) p p)∧f 12=ak∧f 13=(.slice (some ⟨ai,0,none⟩) u u)∧f 14=(.slice (some ⟨a0,0,none⟩) an an)∧f 55=(.slice (some ⟨ai,0,none⟩) u u)∧f 56=(int (aj.length:Int))∧f 57=(int cc)∧Sl aq o ad∧Sl aq ak aw∧Ms aq br bq∧Ms aq ap aj∧Ms aq aa ae∧bq.length=an∧St w0 H0 w aq [.box a0 9 br,.row ak 36 1 aw.length,.box ai 3 ap,.box t 36 aa]) (0,e6) a9 fc ?_ ?_
     ·exact ⟨ax,e8,dj,dk,e5,ca,dl,rfl,rfl,rfl,rfl,b,ab,fb,af,d,fa,S⟩
     intro s f w hI hf x fd
     obtain ⟨cc,bq⟩:=s
     obtain ⟨aq,br,dm,dn,cd,dp,dq,ce,dr,ds,bs,b,ab,dt,af,d,cf,S⟩:=hI
     refine Ws<|Wg<|La' bs ds<|We<|Ws ?_
     rcases condE x with ⟨cg,x⟩ | ⟨cg,x⟩
     ·refine CT cg<|Wk<|Ws<|Wb<|Ws<|Wg<|M' bs<|B x fun fe du x=>?_
      refine WL.w (R.idxM (α:=Int) (xs:=aj) dr bo bs el167 du) ?_
      obtain ⟨_,_,ff,fg,fh⟩:=Ms.get af du
      obtain rfl:=(List.cons.inj (show [ff]=[(int fe)] from fh)).1
      refine WL.w (R.loadB (i:=2) S rfl rfl lay3 fg)<|A<|A<|We<|Wg<|M' ce<|M<|M' cd<|M<|B x fun hg dw x=>?_
      refine WL.w (R.idxM (α:=(List Str)) (xs:=ae) rfl dh rfl el35 dw) ?_
      obtain ⟨_,_,hh,fi,fj⟩:=Ms.get d dw
      obtain ⟨hi,ch,fk⟩:=fj
      replace ch:=(List.cons.inj ch).1
      subst ch
      refine WL.w (R.loadB (i:=3) S rfl rfl lay36 fi)<|M<|B x fun hj fl x=>W.idx (α:=Str) fk rfl rfl el36 fl ?_
      rintro hk _ fm rfl
      refine Lq S fm<|B x fun hl fn x=>?_
      refine WL.w (R.idxM (α:=Str) (xs:=bq) rfl cf rfl el36 fn)<|B x fun hm dx x=>?_
      refine W.storeM (α:=Str) (i:=0) (m:=cc) S dt rfl rfl rfl lay9 rfl rfl dx ?_
      intro hn fo fp S
      have fq:=(zEp dx).1.trans cf
      refine We<|Wg<|Lg' bs rfl<|M<|We ?_
      obtain rfl:=oi x
      exact ⟨rfl,⟨aq,fo,dm,dn,cd,dp,dq,ce,dr,ds,rfl,b,ab,fp,af,d,fq,S⟩⟩
     refine CF cg<|Wx ?_
     obtain rfl:=oi x
     obtain rfl:=fd
     exact ⟨aq,br,dm,dn,cd,dp,dq,ce,b,ab,dt,af,d,cf,S⟩
    rintro f w ⟨a1,bp,fr,fs,ft,fu,dy,fv,b,ab,ci,af,d,fw,S⟩
    refine Ws<|Wg<|M' fu<|M' fv ?_
    obtain ⟨cj,bt,fx,_,S⟩:=S.settle (i:=0) rfl
    replace S:St w0 H0 _ cj [.row ak 36 1 aw.length,.box ai 3 ap,.box t 36 aa]:=S
    have fy:At cj ⟨a0,0,none⟩ bp:=⟨_,_,rfl,fx,[],by simp⟩
    have ⟨b,ab⟩:=U2 bt b ab
    have ci:=Ms.mono ci bt
    have af:=Ms.mono af bt
    have d:=Ms.mono d bt
    have ck:Sl cj (.slice (some ⟨a0,0,none⟩) an an) a9:=Ms.sl ci fw fy
    refine W.bslice (α:=(List Str)) [(.slice (some ⟨a0,0,none⟩) an an)] ([a9]:List (List Str)) S el35 rfl rfl rfl (by decide) (Go.Eng.encS ⟨(by rw [Sl.cellsOne ck]; rfl),_,(by rw [Sl.cellsOne ck]),ck⟩ enc0) ?_
    intro ho hp hr cl fz S
    have ⟨b,ab⟩:=U2 cl b ab
    have af:=Ms.mono af cl
    have d:=Ms.mono d cl
    refine B j fun bu f0 j=>W.app (α:=(List Str)) (i:=1) S el35 rfl rfl rfl ab fz f0 ?_
    intro ay ht f1 cm au S
    have ⟨b,ab⟩:=U2 cm b ab
    have af:=Ms.mono af cm
    have d:=Ms.mono d cm
    refine A<|We<|Ws<|Wg<|M' dy ?_
    refine WL.w (v:=int (aj.length:Int)) (R.ofEq (R.lenV rfl Tryz.underlying167) (by rw [bo]))<|Lh<|A<|We<|Ws<|B j fun cn f2 j=>WP.cut (fun f w=>match cn with | (co,ba)=>∃ (az:Hp) (cp:List Value),f 0=o∧f 3=(int am)∧f 9=(.slice (some ⟨t,0,none⟩) p p)∧f 12=ay∧f 13=(.slice (some ⟨ai,0,none⟩) u u)∧f 17=(int co)∧Sl az o ad∧Sl az ay bu∧Ms az cp ba∧Ms az aa ae∧ba.length=u∧St w0 H0 w az [.row ay 36 1 bu.length,.box ai 3 cp,.box t 36 aa]) ?_ ?_
    ·refine Wb ?_
     refine WP.loopM (zBI ae) (fun s f w=>match s with | (bv,bb)=>∃ (a3:Hp) (bw:List Value),f 0=o∧f 3=(int am)∧f 9=(.slice (some ⟨t,0,none⟩) p p)∧f 12=ay∧f 13=(.slice (some ⟨ai,0,none⟩) u u)∧f 17=(int bv)∧Sl a3 o ad∧Sl a3 ay bu∧Ms a3 bw bb∧Ms a3 aa ae∧bb.length=u∧St w0 H0 w a3 [.row ay 36 1 bu.length,.box ai 3 bw,.box t 36 aa]) (wr ((aj.length:Int) - 1),aj) cn f2 ?_ ?_
     ·exact ⟨f1,ap,fr,fs,ft,rfl,dy,rfl,b,au,af,d,bo,(S.pk [1,2,3])⟩
     intro s f w hI hu al f3
     obtain ⟨bv,bb⟩:=s
     obtain ⟨a3,bw,dz,d0,cq,d1,bx,a4,b,au,bc,d,bz,S⟩:=hI
     refine Ws<|Ws<|WP.quiet S kr kr<|QM' a4<|QLd<|QM<|B al fun f4 ao al=>WQ.grp 12 [83,84,85,86,87,88,89,90,91,92,93] 94 (boo f4) ?_ ?_
     ·rcases boolE (decide (0≤bv)) with c | c
      ·replace ao:=condT ao c
       refine QGy c<|QM' bx<|QGy c<|QM' a4<|QGy c<|B ao fun f5 d2 ao=>?_
       refine WQ.val (fun _ _=>(R.idxM (α:=Int) (xs:=bb) rfl bz rfl el167 d2))<|QGy c ?_
       obtain ⟨_,_,f6,f7,f8⟩:=Ms.get bc d2
       obtain rfl:=(List.cons.inj (show [f6]=[(int f5)] from f8)).1
       refine WQ.val (fun w hw=>by obtain ⟨_,hq,S⟩:=hw; exact (R.loadB (i:=1) S rfl rfl lay3 f7))<|QGy c<|QM' cq<|QGy c<|QM' a4<|QGy c<|B ao fun hv d3 ao=>?_
       refine WQ.val (fun _ _=>(R.idxM (α:=(List Str)) (xs:=ae) rfl dh rfl el35 d3))<|QGy c ?_
       obtain ⟨_,_,hx,f9,ga⟩:=Ms.get d d3
       obtain ⟨hy,cr,gb⟩:=ga
       replace cr:=(List.cons.inj cr).1
       subst cr
       refine WQ.val (fun w hw=>by obtain ⟨_,hq,S⟩:=hw; exact (R.loadB (i:=2) S rfl rfl lay36 f9))<|QGy c<|QNq gb<|QGy c<|QLh<|QGy c<|QLe<|QPt c ?_
       exact WQ.nil ⟨(ob ao),ag⟩
      replace ao:=condF ao c
      refine QGn c<|QGn c<|QGn c<|QGn c<|QGn c<|QGn c<|QGn c<|QGn c<|QGn c<|QGn c<|QGn c<|QPf c ?_
      exact WQ.nil ⟨(ob ao),ag⟩
     intro us
     refine WQ.nil ?_
     intro hz d4 cs S
     have ⟨b,au⟩:=U2 cs b au
     have bc:=Ms.mono bc cs
     have d:=Ms.mono d cs
     rcases condE al with ⟨ct,al⟩ | ⟨ct,al⟩
     ·refine CT ct<|Wk<|Wb<|Ws<|Wg<|M' bx<|M' a4<|B al fun h0 gd al=>?_
      refine WL.w (R.idxM (α:=Int) (xs:=bb) rfl bz rfl el167 gd)<|B al fun h1 d5 al=>?_
      refine W.storeM (α:=Int) (i:=1) (m:=bv) S bc rfl rfl rfl lay3 rfl rfl d5 ?_
      intro h2 ge gf S
      have gg:=(zEp d5).1.trans bz
      refine We<|Wg<|M' a4<|Lh<|A<|We ?_
      obtain rfl:=oi al
      exact ⟨rfl,⟨d4,ge,dz,d0,cq,d1,bx,rfl,b,au,gf,d,gg,S⟩⟩
     refine CF ct<|Wx ?_
     obtain rfl:=oi al
     obtain rfl:=f3
     exact ⟨d4,bw,dz,d0,cq,d1,bx,a4,b,au,bc,d,bz,S⟩
    intro f w hM
    obtain ⟨co,ba⟩:=cn
    obtain ⟨az,cp,gh,gi,gj,d6,d7,d8,b,au,d9,d,cu,S⟩:=hM
    refine Ws<|Ws<|Wg<|M' d8<|La<|We ?_
    rcases condE j with ⟨cv,j⟩ | ⟨cv,j⟩
    ·refine CT cv<|Wx ?_
     obtain rfl:=oi j
     obtain rfl:=di
     exact ⟨az,ay,d6,au,(S.pk [0])⟩
    refine CF cv<|Wk<|Wg<|M' d7<|M' d8<|B j fun gk ea j=>?_
    refine WL.w (R.idxM (α:=Int) (xs:=ba) rfl cu rfl el167 ea) ?_
    obtain ⟨_,_,gl,gm,gn⟩:=Ms.get d9 ea
    obtain rfl:=(List.cons.inj (show [gl]=[(int gk)] from gn)).1
    refine WL.w (R.loadB (i:=1) S rfl rfl lay3 gm)<|Lg<|B j fun h3 go j=>?_
    refine WL.w (R.idxM (α:=Int) (xs:=ba) rfl cu rfl el167 go)<|B j fun h4 eb j=>?_
    refine W.storeM (α:=Int) (i:=1) (m:=co) S d9 rfl rfl rfl lay3 rfl rfl eb ?_
    intro h5 gp gq S
    have gr:=(zEp eb).1.trans cu
    refine We ?_
    obtain rfl:=oi j
    exact ⟨rfl,⟨az,ay,gp,gh,gi,gj,d6,d7,b,au,gq,d,gr,S⟩⟩
   refine CF cb<|Wx ?_
   obtain rfl:=oi j
   obtain rfl:=di
   exact ⟨ax,ak,ca,ab,(S.pk [0])⟩
  rintro f w ⟨b9,bn,gs,gt,S⟩
  refine Ws<|Wg<|M' gs<|A<|We ?_
  exact WP.ret (Rl h S gt)
 exact hM.elim
end Go.Proofs
namespace Go.Proofs
open Go Go.Eng Go.VI Go.Eng.Pure
set_option linter.unusedVariables false
set_option maxRecDepth 10000
set_option maxHeartbeats 4000000
theorem c41:FE.ok (U:=UU) Tryz.prog ⟨41,[(.sl (.st 62)),(.sl (.st 41)),.boo,.int],[(.sl (.sl .str))],fun x=>zDj x.1 x.2.1 x.2.2.1 x.2.2.2⟩:=@fun w H az x y hw hg b hT h=>by
 obtain ⟨l,_,rfl,c,⟨o,_,rfl,d,⟨f,_,rfl,i,⟨j,rfl,k⟩⟩⟩⟩:=hT
 obtain rfl:f=_:=i
 obtain rfl:j=_:=k
 exact (zH2 hw b x.1 x.2.1 x.2.2.1 x.2.2.2 c d h).mono (fun _ v K0=>⟨[v],rfl,v,rfl,K0⟩)
theorem c19:FE.ok (U:=UU) Tryz.prog ⟨19,[(.sl (.st 62)),(.sl (.st 41)),.boo],[(.sl .str),.boo],fun x=>zCe x.1 x.2.1 x.2.2⟩:=mk (fcons c41 anil) (.e) Tryz.func19
theorem zHz {c:World} {b:Hp} (hw:Holds c b) (hG:Tryz.Gl c) (d:(List GAxis)) (f:(List GField)) (i:Bool) {j:Value} {k:Value} (o:Sl b j d) (p:Sl b k f) {r:((List Str)×Bool)} (h:zCe d f i=some r) :
  Con Tryz.prog 19 [j,k,(boo i)] c b (fun H' v=>∃ l:Value,v=(.tuple ⟨[l,(boo r.2)]⟩)∧Sl H' l r.1):=by
 refine (c19 (xs:=(d,f,i)) (y:=r) hw (fun _ _ e=>by cases e) hG ⟨_,_,rfl,o,⟨_,_,rfl,p,⟨_,rfl,rfl⟩⟩⟩ h).mono ?_
 rintro _ v ⟨_,rfl,D⟩
 obtain ⟨x,_,rfl,K0,⟨t,rfl,u⟩⟩:=D
 obtain rfl:t=_:=u
 exact ⟨_,rfl,K0⟩
end Go.Proofs
namespace Go.Proofs
open Go.Eng Go.Eng.Pure
set_option linter.unusedVariables false
theorem zR2:fld Tryz.prog 38 0=some 0:=by kernel_rfl
instance:Fld Tryz.prog 38 0 0:=⟨zR2⟩
theorem lay35:lay Tryz.prog 35=some (false,1):=by kernel_rfl
instance:Lay Tryz.prog 35 (false,1):=⟨lay35⟩
theorem zCc {i:World} {c:Hp} (hw:Holds i c) (hG:Tryz.Gl i) (j:(List (List Str))) (o:((List Str)→Option Bool)) {k:Value} {kp_f:FuncId} {cp_f:List Value} (d:Sl c k j) (Fp_f:∀ {w:World} {H:Hp},c.le H→Holds w H→Tryz.Gl w→∀ (z:(List Str)),∀ {y0:Value},Sl H y0 z→∀ (rr:Bool),o z=some rr→Con Tryz.prog kp_f ([y0]++cp_f) w H (fun H' v=>v=(boo rr))) {r:Int} (h:zAv j o=some r) :
  Ci Tryz.prog 90 [k,(.func (.func kp_f) #[] cp_f.toArray)] i c r:=by
 refine CM 19 Tryz.func90 hw fun S=>?_
 refine Ws<|Wg<|A<|We<|Ws<|Ws<|Wg<|M<|Nq d<|M<|We<|B h fun p ai h=>WP.cut (fun f w=>match p with | .inl _=>∃ (H7:Hp),St i c w H7 [] | .inr _=>False) ?_ ?_
 ·refine Wb ?_
  refine WP.loopM (zAO j o) (fun s f w=>match s with | ac=>∃ (l:Hp),f 0=k∧f 1=(.func (.func kp_f) #[] cp_f.toArray)∧f 7=(int (j.length:Int))∧f 8=(int ac)∧Sl l k j∧St i c w l []) 0 p ai ?_ ?_
  ·exact ⟨c,rfl,rfl,rfl,rfl,d,S⟩
  intro ac f w hI y8 b ad
  obtain ⟨l,h2,h3,h4,t,d,S⟩:=hI
  refine Ws<|Wg<|La' t h4<|We<|Ws ?_
  rcases condE b with ⟨u,b⟩ | ⟨u,b⟩
  ·refine CT u<|Wk<|Ws<|Wb<|Ws<|Wg<|M' t<|A<|We<|Ws<|Wg<|M' h3 ?_
   refine M' h2<|M<|B b fun aj ak b=>W.idx (α:=(List Str)) d rfl rfl el35 ak ?_
   rintro au _ al ⟨av,rfl,am⟩
   refine Lq S al<|B b fun aw an b=>W.callv S rfl rfl (Fp_f (S.post.le) S.holds (hG.post S.post) aj am _ an) ?_
   rintro ax ay ao ap S rfl
   have d:=d.up ap
   refine We ?_
   rcases condE b with ⟨x,b⟩ | ⟨x,b⟩
   ·refine CT x<|Ws<|Wg<|M<|A<|We ?_
    obtain rfl:=oi b
    obtain rfl:=ad
    exact WP.ret (Ri h S)
   refine CF x<|Wk<|Wg<|Lg' t rfl<|M<|We ?_
   obtain rfl:=oi b
   exact ⟨rfl,⟨ao,h2,h3,h4,rfl,d,S⟩⟩
  refine CF u<|Wx ?_
  obtain rfl:=oi b
  obtain rfl:=ad
  exact ⟨l,S⟩
 intro f w hM
 rcases p with _ | e
 ·obtain ⟨H7,S⟩:=hM
  refine Ws<|Wg<|A<|We ?_
  exact WP.ret (Ri h S)
 exact hM.elim
theorem zCE {c:World} {b:Hp} (hw:Holds c b) (hG:Tryz.Gl c) (d:(List (List Str))) (f:((List Str)→Option Bool)) {i:Value} {kp_f:FuncId} {cp_f:List Value} (l:Sl b i d) (Fp_f:∀ {w:World} {H:Hp},b.le H→Holds w H→Tryz.Gl w→∀ (j:(List Str)),∀ {k:Value},Sl H k j→∀ (rr:Bool),f j=some rr→Con Tryz.prog kp_f ([k]++cp_f) w H (fun H' v=>v=(boo rr))) {r:Bool} (h:zAb d f=some r) :
  Cb Tryz.prog 42 [i,(.func (.func kp_f) #[] cp_f.toArray)] c b r:=by
 refine CM 9 Tryz.func42 hw fun S=>?_
 refine Ws<|Wg<|A<|We<|Ws<|Wg<|M<|M<|B h fun p o h=>W.call S rfl (zCc S.holds (hG.post S.post) d f l (fun hle=>Fp_f (Hp.le.trans S.post.le hle)) o) ?_
 rintro t u x z S rfl
 refine Ld<|A<|We ?_
 exact WP.ret (Rb h S)
theorem zFJ {d ws:World} {k Hs:Hp} {l:List Ent} (hG:Tryz.Gl d) (f:Str) (j:Str) (o:(List GAxis)) (b:Int) {p:Value} {c:Nat} {t:Addr} (S:St d k ws Hs (.box c 3 [(int b)] :: l)) (u:At Hs t [p]) (x:Sl Hs p o) {r:(Bool×Int)} (h:zCa f j o b=some r) :
  ConS Tryz.prog 92 [(str f),(str j),(ptr c 0),(.pointer (some t))] d k ws Hs l (fun H' v L'=>L'=[.box c 3 [(int r.2)]]∧v=(boo r.1)):=by
 refine ConS.mk (N:=17) Tryz.func92 rfl rfl kr rfl<|Ws<|Wg<|A<|We<|Ws<|Wg ?_
 refine Lo 0 S<|Lg ?_
 refine W.store (i:=0) [(int (wr (b+1)))] S rfl rfl rfl lay3 rfl rfl (Nat.le_of_ble_eq_true kr) rfl ?_
 intro w1 S
 refine We<|Ws<|Wg ?_
 refine Lq S u ?_
 refine Lo 0 S<|B h fun z aa h=>W.idx (α:=GAxis) x rfl rfl el22 aa ?_
 rintro a3 _ ab ⟨v5,rfl,R6⟩
 refine Fc ?_
 have ac:=At.add ab 0 (by simp)
 refine Lq S ac<|M<|M<|B h fun r8 ad h=>W.call S rfl (zFp S.holds (hG.post S.post) z.fName f j ad) ?_
 rintro v9 am an ae S rfl
 refine A<|We ?_
 obtain rfl:=oi h
 refine WP.ret (OutS.one (L':=[.box c 3 [(int (wr (b+1)))]]) rfl ae S rfl ?_)
 exact ⟨rfl,rfl⟩
theorem zBg {j ws:World} {l Hs:Hp} {o:List Ent} (hG:Tryz.Gl j) (t:(List Str)) (z:(List Str)) (p:(List GAxis)) (s0:Int) {ab:Value} {ac:Value} {vq00:Value} {c:Nat} {aq0:Addr} (S:St j l ws Hs (.box c 3 [(int s0)] :: o)) (i:Sl Hs ab t) (k:Sl Hs ac z) (Aq0:At Hs aq0 [vq00]) (Rq00:Sl Hs vq00 p) {r:(Bool×Int)} (h:zAc t z p s0=some r) :
  ConS Tryz.prog 91 [ab,ac,(.func (.func 92) #[] [(ptr c 0),(.pointer (some aq0))].toArray)] j l ws Hs o (fun H' v L'=>L'=[.box c 3 [(int r.2)]]∧v=(boo r.1)):=by
 refine ConS.mk (N:=32) Tryz.func91 rfl rfl kr rfl<|Ws<|Wg<|A<|We<|Ws<|Ws<|Wg<|M<|Nq i<|M<|Nq k ?_
 refine Lf<|We ?_
 rcases condE h with ⟨af,h⟩ | ⟨af,h⟩
 ·refine CT af<|Ws<|Wg<|A<|We ?_
  obtain rfl:=oi h
  refine WP.ret (OutS.one (L':=[.box c 3 [(int s0)]]) rfl lr S rfl ?_)
  exact ⟨rfl,rfl⟩
 refine CF af<|Wk<|Ws<|Ws<|Wg<|M<|Nq i<|M<|We<|B h fun ah ax h=>WP.cut (fun f w=>match ah with | .inl ai=>∃ (u:Hp),f 2=(.func (.func 92) #[] [(ptr c 0),(.pointer (some aq0))].toArray)∧At u aq0 [vq00]∧Sl u vq00 p∧Hp.le Hs u∧St j l w u (.box c 3 [(int ai)] :: o) | .inr _=>False) ?_ ?_
 ·refine Wb ?_
  refine WP.loopM (zAJ t z p) (fun s f w=>match s with | (an,m9)=>∃ (d:Hp),f 1=ac∧f 2=(.func (.func 92) #[] [(ptr c 0),(.pointer (some aq0))].toArray)∧f 15=ab∧f 16=(int (t.length:Int))∧f 17=(int an)∧Sl d ac z∧At d aq0 [vq00]∧Sl d vq00 p∧Sl d ab t∧Hp.le Hs d∧St j l w d (.box c 3 [(int m9)] :: o)) (0,s0) ah ax ?_ ?_
  ·exact ⟨Hs,rfl,rfl,rfl,rfl,rfl,k,Aq0,Rq00,i,lr,S⟩
  intro s f w hI a6 b ao
  obtain ⟨an,m9⟩:=s
  obtain ⟨d,h3,h4,h5,h6,h8,k,Aq0,Rq00,i,ak,S⟩:=hI
  refine Ws<|Wg<|La' h8 h6<|We<|Ws ?_
  rcases condE b with ⟨al,b⟩ | ⟨al,b⟩
  ·refine CT al<|Wk<|Ws<|Wb<|Ws<|Wg<|M' h8<|B b fun ay az b=>W.idx (α:=Str) i h5 h8 el36 az ?_
   rintro a7 _ a0 rfl
   refine Lq S a0<|A<|A<|We<|Ws<|Wg<|M' h3<|M<|B b fun a1 a2 b=>W.idx (α:=Str) k rfl rfl el36 a2 ?_
   rintro a8 _ a3 rfl
   refine Lq S a3<|A<|We<|Ws<|Wg<|M' h4<|M<|M ?_
   replace S:St j l _ d (.box c 3 [(int m9)] :: o):=S
   refine B b fun av a4 b=>W.callvS rfl rfl (zFJ hG ay a1 p m9 S Aq0 Rq00 a4) ?_
   rintro a9 ba aw bb x S ⟨rfl,rfl⟩
   replace S:St j l _ aw (.box c 3 [(int av.2)] :: o):=S
   have k:=k.up x
   have Aq0:=At.mono Aq0 x (by simp)
   have ⟨Rq00,i⟩:=U2 x Rq00 i
   refine No<|We ?_
   rcases condE b with ⟨am,b⟩ | ⟨am,b⟩
   ·refine CT am<|Ws<|Wg<|A<|We ?_
    obtain rfl:=oi b
    obtain rfl:=ao
    obtain rfl:=oi h
    refine WP.ret (OutS.one (L':=[.box c 3 [(int av.2)]]) rfl (ak.trans x) S rfl ?_)
    exact ⟨rfl,rfl⟩
   refine CF am<|Wk<|Wg<|Lg' h8 rfl<|M<|We ?_
   obtain rfl:=oi b
   exact ⟨rfl,⟨aw,h3,h4,h5,h6,rfl,k,Aq0,Rq00,i,(ak.trans x),S⟩⟩
  refine CF al<|Wx ?_
  obtain rfl:=oi b
  obtain rfl:=ao
  exact ⟨d,h4,Aq0,Rq00,ak,S⟩
 intro f w hM
 rcases ah with ai | e
 ·obtain ⟨u,bc,Aq0,Rq00,a5,S⟩:=hM
  refine Ws<|Wg<|A<|We ?_
  obtain rfl:=oi h
  refine WP.ret (OutS.one (L':=[.box c 3 [(int ai)]]) rfl a5 S rfl ?_)
  exact ⟨rfl,rfl⟩
 exact hM.elim
theorem zHg {c:World} {b:Hp} (hw:Holds c b) (hG:Tryz.Gl c) (l:(List GAxis)) (o:(List Str)) (p:(List Str)) {f:Value} {x:Value} {z:Value} (d:Sl b f l) (j:Sl b x o) (t:Sl b z p) {r:Bool} (h:zC3 l o p=some r) :
  Cb Tryz.prog 44 [f,x,z] c b r:=by
 refine CM 17 Tryz.func44 hw fun S=>?_
 refine Ws<|Wg ?_
 refine W.box [f] S rfl (congrArg Array.toList (Sl.cellsOne d)) ?_
 intro b1 w2 S
 refine A<|We<|Ws<|Ws<|Wg<|M<|Nq j ?_
 refine Lo 0 S<|Nq d<|Lf<|We ?_
 rcases condE h with ⟨u,h⟩ | ⟨u,h⟩
 ·refine CT u<|Ws<|Wg<|A<|We ?_
  exact WP.ret (Rb h S)
 refine CF u<|Wk<|Ws<|Wg ?_
 refine W.alloc [(int 0)] S zer3 ?_
 intro k w5 S
 refine W.store (i:=0) [(int (-1))] S rfl rfl rfl lay3 rfl rfl (Nat.le_of_ble_eq_true kr) rfl ?_
 intro w6 S
 refine We<|Ws<|Wg<|M<|M ?_
 obtain ⟨v,ab,ac,_,S⟩:=S.settle (i:=1) rfl
 replace S:St c b _ v [.box k 3 [(int (-1))]]:=S
 have ad:At v ⟨b1,0,none⟩ [f]:=⟨_,_,rfl,ac,[],by simp⟩
 have ⟨d,j,t⟩:=U3 ab d j t
 refine WL.w (R.mkFunc (vs:=[(ptr k 0),(.pointer (some ⟨b1,0,none⟩))]) rfl) ?_
 replace S:St c b _ v [.box k 3 [(int (-1))]]:=S
 refine B h fun ae af h=>W.callS rfl (zBg hG o p l (-1) S j t ad d af) ?_
 rintro al am ah an ao S ⟨rfl,rfl⟩
 replace S:St c b _ ah [.box k 3 [(int ae.2)]]:=S
 refine A<|We ?_
 exact WP.ret (Rb h S)
theorem zJu {c:World} {b:Hp} (hw:Holds c b) (hG:Tryz.Gl c) (d:(List Str)) (f:(List GAxis)) (i:(List Str)) {j:Value} {k:Value} {l:Value} {o:Addr} {p:Addr} (t:Sl b j d) (u:At b o [k]) (v:Sl b k f) (x:At b p [l]) (z:Sl b l i) {r:Bool} (h:zEK d f i=some r) :
  Cb Tryz.prog 43 [j,(.pointer (some o)),(.pointer (some p))] c b r:=by
 refine CM 9 Tryz.func43 hw fun S=>?_
 refine Ws<|Wg<|A<|We<|Ws<|Wg ?_
 refine Lq S u<|M ?_
 refine Lq S x<|B h fun r1 aa h=>W.call S rfl (zHg S.holds (hG.post S.post) f d i v t z aa) ?_
 rintro v2 w3 H4 af S rfl
 refine A<|We ?_
 exact WP.ret (Rb h S)
theorem zL1 {j:World} {c:Hp} (hw:Holds j c) (hG:Tryz.Gl j) (v:(List GAxis)) (b:GEntry) (x:(List Str)) {z:Value} {k:Value} {l:Value} {o:Value} {p:Value} {t:Value} (d:Sl c z v) (u:Sl c k b.fKeys) (ap:Sl c l b.fVary) (aq:Sl c o b.fSnapshot) (au:Sl c p b.fFields) (f:Sl c t x) {r:Bool} (h:zHm v b x=some r) :
  Cb Tryz.prog 21 [z,(agg [k,l,o,(str b.fReason),p,(str b.fBody),(int b.fRequested),(int b.fReceived)]),t] j c r:=by
 refine CM 11 Tryz.func21 hw fun S=>?_
 refine Ws<|Wg ?_
 refine W.box [z] S rfl (congrArg Array.toList (Sl.cellsOne d)) ?_
 intro b1 w2 S
 refine W.box [k,l,o,(str b.fReason),p,(str b.fBody),(int b.fRequested),(int b.fReceived)] S rfl rfl ?_
 intro b3 w4 S
 refine W.box [t] S rfl (congrArg Array.toList (Sl.cellsOne f)) ?_
 intro b5 w6 S
 refine A<|We<|Ws<|Wg<|Fb ?_
 refine Lo 1 S ?_
 obtain ⟨H7,aj,ak,_,S⟩:=S.settle (i:=2) rfl
 replace S:St j c _ H7 [.box b5 36 [t],.box b3 38 [k,l,o,(str b.fReason),p,(str b.fBody),(int b.fRequested),(int b.fReceived)]]:=S
 have ab:At H7 ⟨b1,0,none⟩ [z]:=⟨_,_,rfl,ak,[],by simp⟩
 have ⟨d,u,f⟩:=U3 aj d u f
 obtain ⟨ah,ai,al,_,S⟩:=S.settle (i:=0) rfl
 replace S:St j c _ ah [.box b3 38 [k,l,o,(str b.fReason),p,(str b.fBody),(int b.fRequested),(int b.fReceived)]]:=S
 have am:At ah ⟨b5,0,none⟩ [t]:=⟨_,_,rfl,al,[],by simp⟩
 have ⟨d,u,f⟩:=U3 ai d u f
 have ab:=At.mono ab ai (by simp)
 refine WL.w (R.mkFunc (vs:=[(.pointer (some ⟨b1,0,none⟩)),(.pointer (some ⟨b5,0,none⟩))]) rfl)<|B h fun ay an h=>W.call S rfl (zCE S.holds (hG.post S.post) b.fKeys (fun x0=>zEK x0 v x) u (fun hle hw hG x0=>fun q0 r h=>zJu hw hG x0 v x q0 (At.mono ab hle (by simp)) (d.up hle) (At.mono am hle (by simp)) (f.up hle) h) an) ?_
 rintro az a0 a1 a2 S rfl
 refine A<|We ?_
 exact WP.ret (Rb h S)
theorem zJE {o:World} {c:Hp} (hw:Holds o c) (hG:Tryz.Gl o) (b:GEntry) (d:GTable) (p:(List Str)) {f:Value} {j:Value} {k:Value} {l:Value} {t:Value} {u:Value} {v:Value} {x:Addr} {z:Addr} (aa:Sl c f b.fKeys) (ab:Sl c j b.fVary) (ac:Sl c k b.fSnapshot) (ad:Sl c l b.fFields) (ae:At c x [t,u]) (af:Sl c t d.fAxes) (al:Sl c u d.fEntries) (ah:At c z [v]) (ai:Sl c v p) {r:Bool} (h:zEq b d p=some r) :
  Cb Tryz.prog 20 [(agg [f,j,k,(str b.fReason),l,(str b.fBody),(int b.fRequested),(int b.fReceived)]),(.pointer (some x)),(.pointer (some z))] o c r:=by
 refine CM 10 Tryz.func20 hw fun S=>?_
 refine Ws<|Wg ?_
 refine W.box [f,j,k,(str b.fReason),l,(str b.fBody),(int b.fRequested),(int b.fReceived)] S rfl rfl ?_
 intro b1 w2 S
 refine A<|We<|Ws<|Wg<|Fc ?_
 have aj:=At.add ae 0 (by simp)
 refine Lq S aj ?_
 refine WL.w (R.loadBN (i:=0) (vs:=[f,j,k,(str b.fReason),l,(str b.fBody),(int b.fRequested),(int b.fReceived)]) S rfl rfl lay38 rfl rfl) ?_
 refine Lq S ah<|B h fun r4 ak h=>W.call S rfl (zL1 S.holds (hG.post S.post) d.fAxes b p af aa ab ac ad ai ak) ?_
 rintro v5 w6 H7 av S rfl
 refine A<|We ?_
 exact WP.ret (Rb h S)
theorem zKZ {l:World} {d:Hp} (hw:Holds l d) (hG:Tryz.Gl l) (f:GTable) (t:(List GField)) (aa:Bool) {u:Value} {x:Value} {o:Value} (b:Sl d u f.fAxes) (c:Sl d x f.fEntries) (j:Sl d o t) {r:(Int×Bool)} (h:zEG f t aa=some r) :
  Con Tryz.prog 8 [(agg [u,x]),o,(boo aa)] l d (fun H' v=>v=(.tuple ⟨[(int r.1),(boo r.2)]⟩)):=by
 refine CM 32 Tryz.func8 hw fun S=>?_
 refine Ws<|Wg ?_
 refine W.box [u,x] S rfl rfl ?_
 intro b1 w2 S
 refine W.box [o] S rfl (congrArg Array.toList (Sl.cellsOne j)) ?_
 intro z w4 S
 refine A<|A<|We<|Ws<|Ws<|Wg<|Fb ?_
 refine Lo 1 S<|Nq b<|Le<|We ?_
 rcases condE h with ⟨ac,h⟩ | ⟨ac,h⟩
 ·refine CT ac<|Ws<|Wg<|Fb ?_
  refine Lo 1 S ?_
  obtain ⟨H6,au,av,_,S⟩:=S.settle (i:=0) rfl
  replace S:St l d _ H6 [.box b1 25 [u,x]]:=S
  have aw:At H6 ⟨z,0,none⟩ [o]:=⟨_,_,rfl,av,[],by simp⟩
  have ⟨b,c,j⟩:=U3 au b c j
  refine WL.w (R.mkFunc (vs:=[(.pointer (some ⟨z,0,none⟩))]) rfl)<|B h fun a8 ax h=>W.call S rfl (zHV S.holds (hG.post S.post) f.fEntries (fun k=>zEn k t) c (fun hle hw hG k=>fun ad ae af ah r h=>zJL hw hG k t ad ae af ah (At.mono aw hle (by simp)) (j.up hle) h) ax) ?_
  rintro a9 ba bb ay S rfl
  have ⟨b,c,j⟩:=U3 ay b c j
  refine A<|A<|We ?_
  obtain rfl:=oi h
  refine WP.ret (Out.two rfl S rfl rfl ?_)
  exact rfl
 refine CF ac<|Wk<|Ws<|Wg<|Fb ?_
 refine Lo 1 S ?_
 refine Lo 0 S<|M<|B h fun ao az h=>W.call S rfl (zHz S.holds (hG.post S.post) f.fAxes t aa b j az) ?_
 rintro bc bd be a0 S ⟨ai,rfl,p⟩
 have ⟨b,c⟩:=U2 a0 b c
 refine M ?_
 refine Ex ?_
 refine Ex ?_
 refine W.alloc [(.slice none 0 0)] S zer36 ?_
 intro aj bf S
 refine W.storeSl (α:=Str) (i:=0) [ai] S p rfl rfl rfl lay36 (Nat.le_of_ble_eq_true kr) rfl ?_
 intro bg S
 refine A<|We<|Ws<|Ws<|Wg<|M<|No<|We ?_
 rcases condE h with ⟨ak,h⟩ | ⟨ak,h⟩
 ·refine CT ak<|Ws<|Wg<|A<|A<|We ?_
  obtain rfl:=oi h
  refine WP.ret (Out.two rfl S rfl rfl ?_)
  exact rfl
 refine CF ak<|Wk<|Ws<|Wg<|Fb ?_
 refine Lo 2 S ?_
 obtain ⟨ap,a1,a2,_,S⟩:=S.settle (i:=2) rfl
 replace S:St l d _ ap [.box aj 36 [ai],.box z 26 [o]]:=S
 have al:At ap ⟨b1,0,none⟩ [u,x]:=⟨_,_,rfl,a2,[],by simp⟩
 have ⟨b,c,p⟩:=U3 a1 b c p
 obtain ⟨aq,am,a3,_,S⟩:=S.settle (i:=0) rfl
 replace S:St l d _ aq [.box z 26 [o]]:=S
 have a4:At aq ⟨aj,0,none⟩ [ai]:=⟨_,_,rfl,a3,[],by simp⟩
 have ⟨b,c⟩:=U2 am b c
 have al:=At.mono al am (by simp)
 have p:=p.up am
 refine WL.w (R.mkFunc (vs:=[(.pointer (some ⟨b1,0,none⟩)),(.pointer (some ⟨aj,0,none⟩))]) rfl)<|B h fun bh a5 h=>W.call S rfl (zHV S.holds (hG.post S.post) f.fEntries (fun k=>zEq k f ao.1) c (fun hle hw hG k=>fun ad ae af ah r h=>zJE hw hG k f ao.1 ad ae af ah (At.mono al hle (by simp)) (b.up hle) (c.up hle) (At.mono a4 hle (by simp)) (p.up hle) h) a5) ?_
 rintro bi bj bn bo S rfl
 refine A<|A<|We ?_
 obtain rfl:=oi h
 refine WP.ret (Out.two rfl S rfl rfl ?_)
 exact rfl
end Go.Proofs
namespace Go.Proofs
open Go Go.Eng Go.VI Go.Eng.Pure
set_option linter.unusedVariables false
set_option maxRecDepth 10000
set_option maxHeartbeats 4000000
theorem c8:FE.ok (U:=UU) Tryz.prog ⟨8,[(.st 25),(.sl (.st 41)),.boo],[.int,.boo],fun x=>zEG x.1 x.2.1 x.2.2⟩:=@fun w H az x y hw hg b hT h=>by
 obtain ⟨j,_,rfl,c,⟨k,_,rfl,d,⟨f,rfl,i⟩⟩⟩:=hT
 obtain ⟨_,rfl,⟨_,_,rfl,S0_0,S0_1⟩⟩:=c
 obtain rfl:f=_:=i
 exact (zKZ hw b x.1 x.2.1 x.2.2 S0_0 S0_1 d h).mono (fun _ _ e=>⟨[_,_],e,_,_,rfl,rfl,⟨_,rfl,rfl⟩⟩)
theorem c280:FE.ok (U:=UU) Tryz.prog ⟨280,[.str],[.int],fun x=>zIV x⟩:=mk anil (.n .e (.n (.n .e (.lp ⟨[⟨.sl 3,.int,none⟩],some [],[]⟩ (some ⟨[],some [],[]⟩) true .e)) .e)) Tryz.func280
theorem c279:FE.ok (U:=UU) Tryz.prog ⟨279,[.str],[.int],fun x=>zKH x⟩:=mk (fcons c177 anil) (.e) Tryz.func279
end Go.Proofs
namespace Go.Proofs
open Go.Eng Go.Eng.Pure
set_option linter.unusedVariables false
theorem zG0 {l:World} {o:Hp} (hw:Holds l o) (hG:Tryz.Gl l) (k:Str) (c:Str) {r:Str} (h:zD1 k c=some r) :
  Cs Tryz.prog 278 [(str k),(str c)] l o r:=by
 refine CM 37 Tryz.func278 hw fun S=>?_
 refine Ws<|Wg<|A<|We<|Ws<|Ws<|Wg<|M<|Na<|M ?_
 refine WL.grp 3 [10,11] 12 (boo ((k==[])||(c==[]))) ?_ ?_
 ·rcases boolE (k==[]) with f | f
  ·refine Gn f<|Gn f<|Pt f ?_
   exact We ⟨(orT f),ag,rfl⟩
  refine Gy f<|M<|Gy f<|Na<|Pf f ?_
  exact We ⟨(orF f),ag,rfl⟩
 intro us
 refine We ?_
 rcases condE h with ⟨p,h⟩ | ⟨p,h⟩
 ·refine CT p<|Ws<|Wg<|M<|A<|We ?_
  exact WP.ret (Rs h S)
 refine CF p<|Wk<|Ws<|Ws<|Wg<|M<|Ns<|Le<|M<|B h fun v j h=>WL.grp 4 [18,19,20] 21 (boo v) ?_ ?_
 ·rcases boolE ((c.length:Int)==1) with d | d
  ·replace j:=condT j d
   refine Gy d<|M<|Gy d<|B j fun c6 x j=>Ja x<|Gy d<|Ma c6 128<|Pt d ?_
   exact We ⟨(ob j),ag,rfl⟩
  replace j:=condF j d
  refine Gn d<|Gn d<|Gn d<|Pf d ?_
  exact We ⟨(ob j),ag,rfl⟩
 intro us
 refine We ?_
 rcases condE h with ⟨t,h⟩ | ⟨t,h⟩
 ·refine CT t<|Ws<|Wg<|M<|M<|B h fun c9 z h=>Ja z<|B h fun ah aa h=>W.call S rfl (zC8 S.holds (hG.post S.post) k c9 aa) ?_
  rintro ai aj ak al S rfl
  refine A<|We ?_
  exact WP.ret (Rs h S)
 refine CF t<|Wk<|Ws<|Ws<|Wg<|M<|B h fun am ab h=>W.call S rfl (zC5 S.holds c ab) ?_
 rintro an ao ap aq S rfl
 refine M ?_
 refine Ex ?_
 refine Ex ?_
 refine W.alloc (List.replicate 256 (boo false)) S zRH ?_
 intro ac au S
 refine W.store (i:=0) (setc c) S rfl rfl rfl zO1 (show (Lib.setCells c).size=256 by have:=zEe c; simpa [setc] using this) (zM9 c) (Nat.le_of_eq (by rw [List.length_replicate])) (zKM ((zEe c).trans (by rw [List.length_replicate]))) ?_
 intro av S
 obtain ⟨u,aw,ad,_,S⟩:=S.settle (i:=0) rfl
 replace S:St l o _ u []:=S
 have ae:At u ⟨ac,0,none⟩ (setc c):=⟨_,_,rfl,ad,[],by simp⟩
 refine A<|We<|Ws<|Wg<|M<|We<|WP.condT (b:=true) rfl rfl<|Ws<|Wg<|M<|B h fun ax af h=>W.call S rfl (zCs S.holds (hG.post S.post) k c ae af) ?_
 rintro ay az a0 a1 S rfl
 refine A<|We ?_
 exact WP.ret (Rs h S)
end Go.Proofs
namespace Go.Proofs
open Go Go.Eng Go.VI Go.Eng.Pure
set_option linter.unusedVariables false
set_option maxRecDepth 10000
set_option maxHeartbeats 4000000
theorem c278:FE.ok (U:=UU) Tryz.prog ⟨278,[.str,.str],[.str],fun x=>zD1 x.1 x.2⟩:=@fun w H az x y hw hg b hT h=>by
 obtain ⟨c,_,rfl,d,⟨f,rfl,i⟩⟩:=hT
 obtain rfl:c=_:=d
 obtain rfl:f=_:=i
 exact (zG0 hw b x.1 x.2 h).mono (fun _ _ e=>⟨[_],e,_,rfl,rfl⟩)
theorem c227:FE.ok (U:=UU) Tryz.prog ⟨227,[.str],[(.sl .str),.boo],fun x=>zKE x⟩:=mk (fcons c280 (fcons c279 (fcons c278 (fcons c216 anil)))) (.n .e (.n .e (.n .e (.n .e (.lp ⟨[⟨.sl 0,.str,none⟩,⟨.sl 4,(.sl .str),some 9⟩],some [],[]⟩ none true (.n (.n .e (.n .e (.n .e (.n (.n .e (.j ⟨[⟨.sl 5,.int,none⟩],some [.sl 4],[]⟩ false .e)) (.n .e (.n .e (.n (.n .e (.j ⟨[⟨.sl 6,.str,none⟩],some [.sl 4],[]⟩ true .e)) .e))))))) .e)))))) Tryz.func227
theorem c136:FE.ok (U:=UU) Tryz.prog ⟨136,[.int,.int,.str],[.str],fun x=>zDO x.1 x.2.1 x.2.2⟩:=mk (fcons c194 (fcons c133 anil)) (.e) Tryz.func136
theorem c72:FE.ok (U:=UU) Tryz.prog ⟨72,[(.st 84),.str],[.str],fun x=>zFr x.1 x.2⟩:=mk (fcons c137 (fcons c136 (fcons c70 anil))) (.e) Tryz.func72
theorem c198:FE.ok (U:=UU) Tryz.prog ⟨198,[.str],[(.st 41),.int],fun x=>zI8 x⟩:=mk (fcons c269 (fcons c200 (fcons c179 (fcons c174 (fcons c24 anil))))) (.e) Tryz.func198
noncomputable def w187 {l:List (GE UU)} (h:GamOk Tryz.prog (gal l)):WE Tryz.prog UU:=wJ 187 h (.e) [.boo] [] Tryz.func187
noncomputable def w261 {l:List (GE UU)} (h:GamOk Tryz.prog (gal l)):WE Tryz.prog UU:=wJ 261 h (.n .e (.n (.n .e (.lp ⟨[⟨.sl 8,.int,none⟩],some [],[]⟩ (some ⟨[],some [],[]⟩) true .e)) .e)) [.int] [] Tryz.func261
theorem c188:FE.ok (U:=UU) Tryz.prog ⟨188,[.str],[.boo],fun x=>zDN x⟩:=mk (fcons c97 anil) (.e) Tryz.func188
theorem c117:FE.ok (U:=UU) Tryz.prog ⟨117,[(.sl (.st 41))],[(.st 153)],fun x=>zGn x⟩:=mk (wc w187 (wc w261 (fcons c188 (fcons c80 (fcons c78 (fcons c55 anil)))))) (.n .e (.n .e (.n (.n .e (.j ⟨[⟨.cs 3 1,.boo,none⟩],some [],[]⟩ false .e)) .e))) Tryz.func117
theorem c221:FE.ok (U:=UU) Tryz.prog ⟨221,[(.sl (.st 41)),.str],[(.sl (.st 218)),.boo,.boo],fun x=>zPh x.1 x.2⟩:=mk (fcons c196 (fcons c55 anil)) (.n .e (.n .e (.n .e (.n .e (.n .e (.n (.n .e (.lp ⟨[⟨.sl 8,(.sl (.st 218)),some 218⟩,⟨.sl 35,.int,none⟩],some [],[]⟩ (some ⟨[⟨.sl 8,(.sl (.st 218)),some 218⟩],some [],[]⟩) true .e)) .e)))))) Tryz.func221
theorem c157:FE.ok (U:=UU) Tryz.prog ⟨157,[(.sl (.st 41))],[(.sl (.st 62)),.int],fun x=>zJq x⟩:=mk (fcons c227 (fcons c179 (fcons c80 (fcons c55 (fcons c25 (fcons c24 (fcons c11 anil))))))) (.n .e (.n .e (.n .e (.n (.n .e (.lp ⟨[⟨.sl 4,(.sl (.st 62)),some 62⟩,⟨.sl 18,.int,none⟩],some [],[]⟩ (some ⟨[⟨.sl 4,(.sl (.st 62)),some 62⟩],some [],[]⟩) true .e)) .e)))) Tryz.func157
end Go.Proofs
namespace Go.Proofs
open Go.Eng Go.Eng.Pure
set_option linter.unusedVariables false
theorem zFv:SortCon Tryz.prog 223:=⟨zFQ Tryz.func223 rfl kr,Tryz.slices_Sort_string_none,Tryz.slices_Sort_string⟩
theorem zEv:CompactCon Tryz.prog 224:=⟨zFQ Tryz.func224 rfl kr,Tryz.slices_Compact_string_empty,Tryz.slices_Compact_string⟩
theorem zKW {k:World} {l:Hp} (hw:Holds k l) (hG:Tryz.Gl k) (u:(List GField)) {aj:Value} (ak:Sl l aj u) {r:((List Str)×Bool)} (h:zKN u=some r) :
  Con Tryz.prog 155 [aj] k l (fun H' v=>∃ u1:Value,v=(.tuple ⟨[u1,(boo r.2)]⟩)∧Sl H' u1 r.1):=by
 refine CM 36 Tryz.func155 hw fun S=>?_
 have bj:=ak
 refine Ws<|Wg<|A<|A<|We<|Ws<|Wg<|M<|B h fun x ay h=>W.call S rfl (zHG S.holds (hG.post S.post) u [86,97,114,121] ak ay) ?_
 rintro v2 w3 H4 bo S c
 refine A<|We<|Ws<|Ws<|Wg<|M<|Nq c<|Ld<|We ?_
 rcases condE h with ⟨z,h⟩ | ⟨z,h⟩
 ·refine CT z<|Ws<|Wg<|A<|A<|We ?_
  obtain rfl:=oi h
  refine WP.ret (Out.two rfl S rfl rfl ?_)
  exact ⟨_,rfl,Sl.nil⟩
 refine CF z<|Wk<|Ws<|Wg<|A<|We<|Ws<|Ws<|Wg<|M<|Nq c<|M ?_
 refine We ?_
 have S:=S.addNil 9 1
 refine B h fun aa a0 h=>WP.cut (fun f w=>match aa with | .inl ab=>∃ (ac:Hp) (t:Value),f 5=t∧Sl ac t ab∧St k l w ac [.row t 9 1 ab.length] | .inr _=>False) ?_ ?_
 ·refine Wb ?_
  refine WP.loopM (zHN x) (fun s f w=>match s with | (ad,an)=>∃ (o:Hp) (p:Value),f 5=p∧f 13=v2∧f 14=(int (x.length:Int))∧f 15=(int an)∧Sl o p ad∧Sl o v2 x∧St k l w o [.row p 9 1 ad.length]) (([]:List Str),0) aa a0 ?_ ?_
  ·exact ⟨H4,.slice none 0 0,rfl,rfl,rfl,rfl,Sl.nil,c,S⟩
  intro s f w hI bp b ao
  obtain ⟨ad,an⟩:=s
  obtain ⟨o,p,ap,aq,au,ae,d,c,S⟩:=hI
  refine Ws<|Wg<|La' ae au<|We<|Ws ?_
  rcases condE b with ⟨af,b⟩ | ⟨af,b⟩
  ·refine CT af<|Wk<|Ws<|Wb<|Ws<|Wg<|B b fun ah a1 b=>W.idx (α:=Str) c aq ae el36 a1 ?_
   rintro bq _ a2 rfl
   refine Lq S a2<|A<|We<|Ws<|Ws<|Wg<|M<|B b fun av a3 b=>W.call S rfl (zEw S.holds (hG.post S.post) ah a3) ?_
   rintro br bs bt a4 S rfl
   have ⟨d,c⟩:=U2 a4 d c
   refine No<|M ?_
   refine WL.grp 3 [23,24] 25 (boo ((!av)||(ah==[42]))) ?_ ?_
   ·rcases boolE (!av) with j | j
    ·refine Gn j<|Gn j<|Pt j ?_
     exact We ⟨(orT j),ag,rfl⟩
    refine Gy j<|M<|Gy j<|Na<|Pf j ?_
    exact We ⟨(orF j),ag,rfl⟩
   intro us
   refine We ?_
   rcases condE b with ⟨ai,b⟩ | ⟨ai,b⟩
   ·refine CT ai<|Ws<|Wg<|A<|A<|We ?_
    obtain rfl:=oi b
    obtain rfl:=ao
    obtain rfl:=oi h
    refine WP.ret (Out.two rfl S rfl rfl ?_)
    exact ⟨_,rfl,Sl.nil⟩
   refine CF ai<|Wk<|Wg<|M' ap<|M<|B b fun aw a5 b=>W.call S rfl (zA7 S.holds (hG.post S.post) ah a5) ?_
   rintro bu bv bw a6 S rfl
   have ⟨d,c⟩:=U2 a6 d c
   refine W.bslice (α:=Str) [(str aw)] ([aw]:List Str) S el36 rfl rfl rfl (by decide) (Go.Eng.encS ⟨rfl,rfl⟩ enc0) ?_
   intro bx bz b0 a7 a8 S
   have ⟨d,c⟩:=U2 a7 d c
   refine B b fun b1 a9 b=>W.app (α:=Str) (i:=1) S el36 rfl rfl rfl d a8 a9 ?_
   intro ba b2 bb bc bd S
   have ⟨d,c⟩:=U2 bc d c
   refine A<|We<|Wg<|Lg' ae rfl<|M<|We ?_
   obtain rfl:=oi b
   exact ⟨rfl,⟨bb,ba,rfl,aq,au,rfl,bd,c,(S.pk [1])⟩⟩
  refine CF af<|Wx ?_
  obtain rfl:=oi b
  obtain rfl:=ao
  exact ⟨o,p,ap,d,S⟩
 intro f w hM
 rcases aa with ab | e
 ·obtain ⟨ac,t,ax,be,S⟩:=hM
  refine Ws<|Wg<|M' ax<|B h fun b3 bf h=>W.sortRow (i:=0) zFv hw S rfl rfl be bf ?_
  intro b4 b5 b6 bg S
  refine We<|Ws<|Wg<|M' ax<|B h fun b7 bh h=>W.compactRow (i:=0) zEv hw S rfl rfl bg bh ?_
  intro b8 b9 ca cb bi S
  refine A<|A<|We ?_
  obtain rfl:=oi h
  refine WP.ret (Out.two rfl S rfl rfl ?_)
  exact ⟨_,rfl,bi⟩
 exact hM.elim
end Go.Proofs

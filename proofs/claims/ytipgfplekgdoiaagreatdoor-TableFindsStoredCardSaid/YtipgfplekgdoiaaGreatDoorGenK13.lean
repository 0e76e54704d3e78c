/- A part. -/
import Derived.Test.YtipgfplekgdoiaaGreatDoorEng38
import Derived.Test.YtipgfplekgdoiaaGreatDoorEng33
import Derived.Test.YtipgfplekgdoiaaGreatDoorGenK12
namespace Go.Proofs
set_option maxHeartbeats 4000000
set_option maxRecDepth 10000
open Go.Eng Go.Eng.Pure
set_option linter.unusedVariables false
theorem zLZ {t:World} {p:Hp} (hw:Holds t p) (ao:(List GAxis)) (ap:(List GField)) (aq:Bool) {x:Value} {z:Value} (b:Sl p x ao) (c:Sl p z ap) {r:(List (List Str))} (h:zIz ao ap aq=some r) :
  Con Tryz.prog 55 [x,z,(boo aq)] t p (fun H' v=>Sl H' v r):=by
 refine CM 63 Tryz.func55 hw fun S=>?_
 refine Ws<|Wg<|A<|We<|Ws<|Ws<|Wg<|M<|B h fun r1 d4 h=>W.call S rfl (zKf S.holds ao b d4) ?_
 rintro v2 w3 H4 dn S rfl
 have b:=b.up dn
 have c:=c.up dn
 refine No<|We ?_
 rcases condE h with ⟨ce,h⟩ | ⟨ce,h⟩
 ·refine CT ce<|Ws<|Wg<|A<|We ?_
  exact WP.ret (Rl h S Sl.nil)
 refine CF ce<|Wk<|Ws<|Wg<|W.bslice (α:=(List Str)) [(.slice none 0 0)] ([([]:List Str)]:List (List Str)) S el33 rfl rfl rfl (by decide) (Go.Eng.encS ⟨rfl,_,rfl,Sl.nil⟩ enc0) ?_
 intro u7 w8 H9 dp d7 S
 have b:=b.up dp
 have c:=c.up dp
 refine A<|We<|Ws<|Ws<|Wg<|A<|We<|B h fun cf d8 h=>WP.cut (fun f w=>∃ (b7:Hp) (b8:Value),f 7=b8∧Sl b7 b8 cf∧St t p w b7 [.row b8 34 1 cf.length]) ?_ ?_
 ·refine Wb ?_
  refine WP.loopM (zDE ao ap aq) (fun s f w=>match s with | (q,be)=>∃ (bu:Hp) (o:Value),f 0=x∧f 1=z∧f 2=(boo aq)∧f 7=o∧f 8=(int be)∧Sl bu x ao∧Sl bu z ap∧Sl bu o q∧St t p w bu [.row o 34 1 q.length]) (([([]:List Str)]:List (List Str)),0) cf d8 ?_ ?_
  ·exact ⟨H9,u7,rfl,rfl,rfl,rfl,rfl,b,c,d7,S⟩
  intro s f w hI g9 af d9
  obtain ⟨q,be⟩:=s
  obtain ⟨bu,o,cg,dq,dr,ds,ch,b,c,d,S⟩:=hI
  refine Ws<|Ws<|Wg<|M' ch<|M' cg<|Nq b<|La<|We ?_
  rcases condE af with ⟨ci,af⟩ | ⟨ci,af⟩
  ·refine CT ci<|Wk<|Ws<|Wb<|Ws<|Wg<|M' cg<|M' ch<|B af fun dt ea af=>W.idx (α:=GAxis) b rfl rfl el22 ea ?_
   rintro ha _ eb ⟨ec,rfl,ed⟩
   refine WL.w (R.loadHN (vs:=[(str dt.fName),ec]) S rfl eb lay68 rfl rfl)<|M' dq<|M' dr<|B af fun bv ee af=>W.call S rfl (zKP S.holds dt ap aq ed c ee) ?_
   rintro aw hb ef cj S j
   have b:=b.up cj
   have c:=c.up cj
   have d:=d.up cj
   refine A<|We<|Ws<|Wg<|A<|We<|Ws<|Ws<|Wg<|A<|We ?_
   have S:=S.addNil 34 1
   refine B af fun ck eg af=>WP.cut (fun f w=>∃ (bw:Hp) (b9:Value),f 0=x∧f 1=z∧f 2=(boo aq)∧f 8=(int be)∧f 10=b9∧Sl bw x ao∧Sl bw z ap∧Sl bw b9 ck∧St t p w bw [.row b9 34 1 ck.length]) ?_ ?_
   ·refine Wb ?_
    refine WP.loopM (zDF q bv) (fun s f w=>match s with | (cc,bf)=>∃ (ax:Hp) (bx:Value),f 0=x∧f 1=z∧f 2=(boo aq)∧f 7=o∧f 8=(int be)∧f 9=aw∧f 10=bx∧f 11=(int bf)∧Sl ax x ao∧Sl ax z ap∧Sl ax o q∧Sl ax aw bv∧Sl ax bx cc∧St t p w ax [.row bx 34 1 cc.length,.row o 34 1 q.length]) (([]:List (List Str)),0) ck eg ?_ ?_
    ·exact ⟨ef,.slice none 0 0,cg,dq,dr,ds,ch,rfl,rfl,rfl,b,c,d,j,Sl.nil,S⟩
    intro s f w hI hc bg eh
    obtain ⟨cc,bf⟩:=s
    obtain ⟨ax,bx,du,dw,dx,dy,dz,ei,d0,d1,b,c,d,j,d2,S⟩:=hI
    refine Ws<|Ws<|Wg<|M' d1<|M' dy<|Nq d<|La<|We ?_
    rcases condE bg with ⟨cl,bg⟩ | ⟨cl,bg⟩
    ·refine CT cl<|Wk<|Ws<|Wb<|Ws<|Wg<|A<|We<|B bg fun cm ej bg=>WP.cut (fun f w=>∃ (a2:Hp) (ca:Value),f 0=x∧f 1=z∧f 2=(boo aq)∧f 7=o∧f 8=(int be)∧f 9=aw∧f 10=ca∧f 11=(int bf)∧Sl a2 x ao∧Sl a2 z ap∧Sl a2 o q∧Sl a2 aw bv∧Sl a2 ca cm∧St t p w a2 [.row ca 34 1 cm.length,.row o 34 1 q.length]) ?_ ?_
     ·refine Wb ?_
      refine WP.loopM (zC8 q bv bf) (fun s f w=>match s with | (cn,cd)=>∃ (aa:Hp) (bz:Value),f 0=x∧f 1=z∧f 2=(boo aq)∧f 7=o∧f 8=(int be)∧f 9=aw∧f 10=bz∧f 11=(int bf)∧f 12=(int cd)∧Sl aa x ao∧Sl aa z ap∧Sl aa o q∧Sl aa aw bv∧Sl aa bz cn∧St t p w aa [.row bz 34 1 cn.length,.row o 34 1 q.length]) (cc,0) cm ej ?_ ?_
      ·exact ⟨ax,bx,du,dw,dx,dy,dz,ei,d0,d1,rfl,b,c,d,j,d2,S⟩
      intro s f w hI he u ek
      obtain ⟨cn,cd⟩:=s
      obtain ⟨aa,bz,bh,bi,bj,a3,bk,ay,d3,a4,a5,b,c,d,j,k,S⟩:=hI
      refine Ws<|Ws<|Wg<|M' a5<|M' ay<|Nq j<|La<|We ?_
      rcases condE u with ⟨co,u⟩ | ⟨co,u⟩
      ·refine CT co<|Wk<|Ws<|Wb<|B u fun hf cp u=>B u fun hg b0 u=>B u fun ab cq u=>B u fun b1 b2 u=>B u fun a6 b3 u=>WP.cut (fun f w=>∃ (a7:Hp) (cb:Value),f 0=x∧f 1=z∧f 2=(boo aq)∧f 7=o∧f 8=(int be)∧f 9=aw∧f 10=cb∧f 11=(int bf)∧f 12=(int cd)∧Sl a7 x ao∧Sl a7 z ap∧Sl a7 o q∧Sl a7 aw bv∧Sl a7 cb a6∧St t p w a7 [.row cb 34 1 a6.length,.row o 34 1 q.length]) ?_ ?_
       ·refine WP.drawC (Cl t p aa []) kr 15 rfl (bm 15 0) rfl ?_
        have S:=S.drew
        refine Ct 0 15 1 rfl (fun _ _=>(R.mv (v:=bz) d3)) ?_
        refine Ct 1 15 3 rfl (fun _ _=>(R.mv (v:=o) a3)) ?_
        refine Ct 2 15 7 rfl (fun _ _=>(R.mv (v:=int bf) a4)) ?_
        refine Ct 6 15 71 rfl (fun _ _=>(R.mv (v:=aw) ay)) ?_
        refine Ct 7 15 199 rfl (fun _ _=>(R.mv (v:=int cd) a5)) ?_
        refine Cx [3,8] ⟨aa,lr,S.drop _ (.cons _ (.cons _ .slnil))⟩ (allS ?_ (all1 ?_))
        ·refine Nx 15 207 rfl<|W.idx (α:=(List Str)) d rfl rfl el33 cp ?_
         rintro hh _ el ⟨em,rfl,l⟩
         refine We ?_
         refine Ct 4 15 223 rfl (fun w hw=>by obtain ⟨_,hq,S⟩:=hw; exact (R.loadH (v:=em) S rfl (At.mono el hq (by simp)) lay34 rfl)) ?_
         refine Cx [5,8] ⟨aa,lr,S.drop _ (.cons _ (.cons _ .slnil))⟩ (allS ?_ (all1 ?_))
         ·refine Nx 15 255 rfl ?_
          have S:=S.addNil 9 1
          refine W.app (α:=Str) (i:=0) S el34 rfl rfl rfl Sl.nil l b0 ?_
          intro hi hj cr ad cs S
          have b:=b.up ad
          have c:=c.up ad
          have d:=d.up ad
          have j:=j.up ad
          have k:=k.up ad
          have l:=l.up ad
          refine We ?_
          refine Cx [8] ⟨cr,ad,S.drop _ (.cons _ (.cons _ (.cons _ .slnil)))⟩ (all1 ?_)
          refine Nx 15 511 rfl<|W.idx (α:=Str) j rfl rfl el34 cq ?_
          rintro hk _ en rfl
          refine We ?_
          refine Cx [9] ⟨cr,ad,S.drop _ (.cons _ (.cons _ (.cons _ .slnil)))⟩ (all1 ?_)
          refine Nx 15 1023 rfl ?_
          refine Lq S en<|We ?_
          refine Cx [10] ⟨cr,ad,S.drop _ (.cons _ (.cons _ (.cons _ .slnil)))⟩ (all1 ?_)
          refine Nx 15 2047 rfl<|W.bslice (α:=Str) [(str ab)] ([ab]:List Str) S el34 rfl rfl rfl (by decide) (Go.Eng.encS ⟨rfl,rfl⟩ enc0) ?_
          intro hl hm eo ah ep S
          have b:=b.up ah
          have c:=c.up ah
          have d:=d.up ah
          have j:=j.up ah
          have k:=k.up ah
          have l:=l.up ah
          have cs:=cs.up ah
          refine We ?_
          refine Cx [11] ⟨eo,(ad.trans ah),S.drop _ (.cons _ (.cons _ (.cons _ (.cons _ .slnil))))⟩ (all1 ?_)
          refine Nx 15 4095 rfl<|W.app (α:=Str) (i:=1) S el34 rfl rfl rfl cs ep b2 ?_
          intro eq hn er az ct S
          have b:=b.up az
          have c:=c.up az
          have d:=d.up az
          have j:=j.up az
          have k:=k.up az
          have l:=l.up az
          refine We ?_
          refine Cx [12] ⟨er,((ad.trans ah).trans az),S.drop _ (.cons _ (.cons _ (.cons _ (.cons _ .slnil))))⟩ (all1 ?_)
          refine Nx 15 8191 rfl<|W.bslice (α:=(List Str)) [eq] ([b1]:List (List Str)) S el33 rfl rfl rfl (by decide) (Go.Eng.encS ⟨(by rw [Sl.cellsOne ct]; rfl),_,(by rw [Sl.cellsOne ct]),ct⟩ enc0) ?_
          intro ho hp es a8 et S
          have b:=b.up a8
          have c:=c.up a8
          have d:=d.up a8
          have j:=j.up a8
          have k:=k.up a8
          have l:=l.up a8
          refine We ?_
          refine Cx [13] ⟨es,(((ad.trans ah).trans az).trans a8),S.drop _ (.cons _ (.cons _ (.cons _ (.cons _ (.cons _ .slnil)))))⟩ (all1 ?_)
          refine Nx 15 16383 rfl<|W.app (α:=(List Str)) (i:=3) S el33 rfl rfl rfl k et b3 ?_
          intro cu hr cv bn eu S
          have b:=b.up bn
          have c:=c.up bn
          have d:=d.up bn
          have j:=j.up bn
          have k:=k.up bn
          have l:=l.up bn
          refine We ?_
          refine Ct 14 15 32767 rfl (fun _ _=>(R.as (v:=cu) rfl))<|WC.done ⟨cv,((((ad.trans ah).trans az).trans a8).trans bn),S.drop _ (.cons _ (.cons _ (.cons _ (.cons _ (.cons _ .slnil)))))⟩ kr ?_
          have S3:=S
          replace S3:=S3.front 4 rfl
          replace S3:=S3.front 4 rfl
          replace S3:St t p _ cv [.row cu 34 1 a6.length,.row o 34 1 q.length]:=S3.drop _ (.cons_cons _ (.cons_cons _ (.cons _ (.cons _ (.cons _ .slnil)))))
          exact ⟨cv,cu,bh,bi,bj,a3,bk,ay,rfl,a4,a5,b,c,d,j,eu,S3⟩
         refine Nx 15 479 rfl<|W.idx (α:=Str) j rfl rfl el34 cq ?_
         rintro hs _ ew rfl
         refine We ?_
         refine Ct 9 15 991 rfl (fun w hw=>by obtain ⟨_,hq,S⟩:=hw; exact (R.loadH (v:=str ab) S rfl (At.mono ew hq (by simp)) lay9 rfl)) ?_
         refine Cx [5,10] ⟨aa,lr,S.drop _ (.cons _ (.cons _ .slnil))⟩ (allS ?_ (all1 ?_))
         ·refine Nx 15 1023 rfl ?_
          have S:=S.addNil 9 1
          refine W.app (α:=Str) (i:=0) S el34 rfl rfl rfl Sl.nil l b0 ?_
          intro ht hu ex ai cw S
          have b:=b.up ai
          have c:=c.up ai
          have d:=d.up ai
          have j:=j.up ai
          have k:=k.up ai
          have l:=l.up ai
          refine We ?_
          refine Cx [10] ⟨ex,ai,S.drop _ (.cons _ (.cons _ (.cons _ .slnil)))⟩ (all1 ?_)
          refine Nx 15 2047 rfl<|W.bslice (α:=Str) [(str ab)] ([ab]:List Str) S el34 rfl rfl rfl (by decide) (Go.Eng.encS ⟨rfl,rfl⟩ enc0) ?_
          intro hv hx ey aj ez S
          have b:=b.up aj
          have c:=c.up aj
          have d:=d.up aj
          have j:=j.up aj
          have k:=k.up aj
          have l:=l.up aj
          have cw:=cw.up aj
          refine We ?_
          refine Cx [11] ⟨ey,(ai.trans aj),S.drop _ (.cons _ (.cons _ (.cons _ (.cons _ .slnil))))⟩ (all1 ?_)
          refine Nx 15 4095 rfl<|W.app (α:=Str) (i:=1) S el34 rfl rfl rfl cw ez b2 ?_
          intro e0 hy e1 a0 cx S
          have b:=b.up a0
          have c:=c.up a0
          have d:=d.up a0
          have j:=j.up a0
          have k:=k.up a0
          have l:=l.up a0
          refine We ?_
          refine Cx [12] ⟨e1,((ai.trans aj).trans a0),S.drop _ (.cons _ (.cons _ (.cons _ (.cons _ .slnil))))⟩ (all1 ?_)
          refine Nx 15 8191 rfl<|W.bslice (α:=(List Str)) [e0] ([b1]:List (List Str)) S el33 rfl rfl rfl (by decide) (Go.Eng.encS ⟨(by rw [Sl.cellsOne cx]; rfl),_,(by rw [Sl.cellsOne cx]),cx⟩ enc0) ?_
          intro hz h0 e2 a9 e3 S
          have b:=b.up a9
          have c:=c.up a9
          have d:=d.up a9
          have j:=j.up a9
          have k:=k.up a9
          have l:=l.up a9
          refine We ?_
          refine Cx [13] ⟨e2,(((ai.trans aj).trans a0).trans a9),S.drop _ (.cons _ (.cons _ (.cons _ (.cons _ (.cons _ .slnil)))))⟩ (all1 ?_)
          refine Nx 15 16383 rfl<|W.app (α:=(List Str)) (i:=3) S el33 rfl rfl rfl k e3 b3 ?_
          intro cy h1 cz bo e4 S
          have b:=b.up bo
          have c:=c.up bo
          have d:=d.up bo
          have j:=j.up bo
          have k:=k.up bo
          have l:=l.up bo
          refine We ?_
          refine Ct 14 15 32767 rfl (fun _ _=>(R.as (v:=cy) rfl))<|WC.done ⟨cz,((((ai.trans aj).trans a0).trans a9).trans bo),S.drop _ (.cons _ (.cons _ (.cons _ (.cons _ (.cons _ .slnil)))))⟩ kr ?_
          have S3:=S
          replace S3:=S3.front 4 rfl
          replace S3:=S3.front 4 rfl
          replace S3:St t p _ cz [.row cy 34 1 a6.length,.row o 34 1 q.length]:=S3.drop _ (.cons_cons _ (.cons_cons _ (.cons _ (.cons _ (.cons _ .slnil)))))
          exact ⟨cz,cy,bh,bi,bj,a3,bk,ay,rfl,a4,a5,b,c,d,j,e4,S3⟩
         refine Nx 15 2015 rfl<|W.bslice (α:=Str) [(str ab)] ([ab]:List Str) S el34 rfl rfl rfl (by decide) (Go.Eng.encS ⟨rfl,rfl⟩ enc0) ?_
         intro h2 h3 e5 ak c0 S
         have b:=b.up ak
         have c:=c.up ak
         have d:=d.up ak
         have j:=j.up ak
         have k:=k.up ak
         have l:=l.up ak
         refine We ?_
         refine Cx [5] ⟨e5,ak,S.drop _ (.cons _ (.cons _ (.cons _ .slnil)))⟩ (all1 ?_)
         refine Nx 15 2047 rfl ?_
         have S:=S.addNil 9 1
         refine W.app (α:=Str) (i:=0) S el34 rfl rfl rfl Sl.nil l b0 ?_
         intro h4 h5 e6 ar e7 S
         have b:=b.up ar
         have c:=c.up ar
         have d:=d.up ar
         have j:=j.up ar
         have k:=k.up ar
         have c0:=c0.up ar
         refine We ?_
         refine Cx [11] ⟨e6,(ak.trans ar),S.drop _ (.cons _ (.cons _ (.cons _ (.cons _ .slnil))))⟩ (all1 ?_)
         refine Nx 15 4095 rfl<|W.app (α:=Str) (i:=0) S el34 rfl rfl rfl e7 c0 b2 ?_
         intro e8 h6 e9 ba c1 S
         have b:=b.up ba
         have c:=c.up ba
         have d:=d.up ba
         have j:=j.up ba
         have k:=k.up ba
         refine We ?_
         refine Cx [12] ⟨e9,((ak.trans ar).trans ba),S.drop _ (.cons _ (.cons _ (.cons _ (.cons _ .slnil))))⟩ (all1 ?_)
         refine Nx 15 8191 rfl<|W.bslice (α:=(List Str)) [e8] ([b1]:List (List Str)) S el33 rfl rfl rfl (by decide) (Go.Eng.encS ⟨(by rw [Sl.cellsOne c1]; rfl),_,(by rw [Sl.cellsOne c1]),c1⟩ enc0) ?_
         intro h7 h8 fa bp fb S
         have b:=b.up bp
         have c:=c.up bp
         have d:=d.up bp
         have j:=j.up bp
         have k:=k.up bp
         refine We ?_
         refine Cx [13] ⟨fa,(((ak.trans ar).trans ba).trans bp),S.drop _ (.cons _ (.cons _ (.cons _ (.cons _ (.cons _ .slnil)))))⟩ (all1 ?_)
         refine Nx 15 16383 rfl<|W.app (α:=(List Str)) (i:=3) S el33 rfl rfl rfl k fb b3 ?_
         intro c2 h9 c3 b4 fc S
         have b:=b.up b4
         have c:=c.up b4
         have d:=d.up b4
         have j:=j.up b4
         have k:=k.up b4
         refine We ?_
         refine Ct 14 15 32767 rfl (fun _ _=>(R.as (v:=c2) rfl))<|WC.done ⟨c3,((((ak.trans ar).trans ba).trans bp).trans b4),S.drop _ (.cons _ (.cons _ (.cons _ (.cons _ (.cons _ .slnil)))))⟩ kr ?_
         have S3:=S
         replace S3:=S3.front 4 rfl
         replace S3:=S3.front 4 rfl
         replace S3:St t p _ c3 [.row c2 34 1 a6.length,.row o 34 1 q.length]:=S3.drop _ (.cons_cons _ (.cons_cons _ (.cons _ (.cons _ (.cons _ .slnil)))))
         exact ⟨c3,c2,bh,bi,bj,a3,bk,ay,rfl,a4,a5,b,c,d,j,fc,S3⟩
        refine Nx 15 455 rfl<|W.idx (α:=Str) j rfl rfl el34 cq ?_
        rintro ia _ fd rfl
        refine We ?_
        refine Ct 9 15 967 rfl (fun w hw=>by obtain ⟨_,hq,S⟩:=hw; exact (R.loadH (v:=str ab) S rfl (At.mono fd hq (by simp)) lay9 rfl)) ?_
        refine Cx [3,10] ⟨aa,lr,S.drop _ (.cons _ (.cons _ .slnil))⟩ (allS ?_ (all1 ?_))
        ·refine Nx 15 975 rfl<|W.idx (α:=(List Str)) d rfl rfl el33 cp ?_
         rintro ib _ fe ⟨ff,rfl,ac⟩
         refine We ?_
         refine Ct 4 15 991 rfl (fun w hw=>by obtain ⟨_,hq,S⟩:=hw; exact (R.loadH (v:=ff) S rfl (At.mono fe hq (by simp)) lay34 rfl)) ?_
         refine Cx [5,10] ⟨aa,lr,S.drop _ (.cons _ (.cons _ .slnil))⟩ (allS ?_ (all1 ?_))
         ·refine Nx 15 1023 rfl ?_
          have S:=S.addNil 9 1
          refine W.app (α:=Str) (i:=0) S el34 rfl rfl rfl Sl.nil ac b0 ?_
          intro ic id fg al c4 S
          have b:=b.up al
          have c:=c.up al
          have d:=d.up al
          have j:=j.up al
          have k:=k.up al
          have ac:=ac.up al
          refine We ?_
          refine Cx [10] ⟨fg,al,S.drop _ (.cons _ (.cons _ (.cons _ .slnil)))⟩ (all1 ?_)
          refine Nx 15 2047 rfl<|W.bslice (α:=Str) [(str ab)] ([ab]:List Str) S el34 rfl rfl rfl (by decide) (Go.Eng.encS ⟨rfl,rfl⟩ enc0) ?_
          intro ie ig fh am fi S
          have b:=b.up am
          have c:=c.up am
          have d:=d.up am
          have j:=j.up am
          have k:=k.up am
          have ac:=ac.up am
          have c4:=c4.up am
          refine We ?_
          refine Cx [11] ⟨fh,(al.trans am),S.drop _ (.cons _ (.cons _ (.cons _ (.cons _ .slnil))))⟩ (all1 ?_)
          refine Nx 15 4095 rfl<|W.app (α:=Str) (i:=1) S el34 rfl rfl rfl c4 fi b2 ?_
          intro fj ih fk a1 c5 S
          have b:=b.up a1
          have c:=c.up a1
          have d:=d.up a1
          have j:=j.up a1
          have k:=k.up a1
          have ac:=ac.up a1
          refine We ?_
          refine Cx [12] ⟨fk,((al.trans am).trans a1),S.drop _ (.cons _ (.cons _ (.cons _ (.cons _ .slnil))))⟩ (all1 ?_)
          refine Nx 15 8191 rfl<|W.bslice (α:=(List Str)) [fj] ([b1]:List (List Str)) S el33 rfl rfl rfl (by decide) (Go.Eng.encS ⟨(by rw [Sl.cellsOne c5]; rfl),_,(by rw [Sl.cellsOne c5]),c5⟩ enc0) ?_
          intro ii ij fl bb fm S
          have b:=b.up bb
          have c:=c.up bb
          have d:=d.up bb
          have j:=j.up bb
          have k:=k.up bb
          have ac:=ac.up bb
          refine We ?_
          refine Cx [13] ⟨fl,(((al.trans am).trans a1).trans bb),S.drop _ (.cons _ (.cons _ (.cons _ (.cons _ (.cons _ .slnil)))))⟩ (all1 ?_)
          refine Nx 15 16383 rfl<|W.app (α:=(List Str)) (i:=3) S el33 rfl rfl rfl k fm b3 ?_
          intro c6 ik c7 bq fn S
          have b:=b.up bq
          have c:=c.up bq
          have d:=d.up bq
          have j:=j.up bq
          have k:=k.up bq
          have ac:=ac.up bq
          refine We ?_
          refine Ct 14 15 32767 rfl (fun _ _=>(R.as (v:=c6) rfl))<|WC.done ⟨c7,((((al.trans am).trans a1).trans bb).trans bq),S.drop _ (.cons _ (.cons _ (.cons _ (.cons _ (.cons _ .slnil)))))⟩ kr ?_
          have S3:=S
          replace S3:=S3.front 4 rfl
          replace S3:=S3.front 4 rfl
          replace S3:St t p _ c7 [.row c6 34 1 a6.length,.row o 34 1 q.length]:=S3.drop _ (.cons_cons _ (.cons_cons _ (.cons _ (.cons _ (.cons _ .slnil)))))
          exact ⟨c7,c6,bh,bi,bj,a3,bk,ay,rfl,a4,a5,b,c,d,j,fn,S3⟩
         refine Nx 15 2015 rfl<|W.bslice (α:=Str) [(str ab)] ([ab]:List Str) S el34 rfl rfl rfl (by decide) (Go.Eng.encS ⟨rfl,rfl⟩ enc0) ?_
         intro il im fo an c8 S
         have b:=b.up an
         have c:=c.up an
         have d:=d.up an
         have j:=j.up an
         have k:=k.up an
         have ac:=ac.up an
         refine We ?_
         refine Cx [5] ⟨fo,an,S.drop _ (.cons _ (.cons _ (.cons _ .slnil)))⟩ (all1 ?_)
         refine Nx 15 2047 rfl ?_
         have S:=S.addNil 9 1
         refine W.app (α:=Str) (i:=0) S el34 rfl rfl rfl Sl.nil ac b0 ?_
         intro io ip fp au fq S
         have b:=b.up au
         have c:=c.up au
         have d:=d.up au
         have j:=j.up au
         have k:=k.up au
         have c8:=c8.up au
         refine We ?_
         refine Cx [11] ⟨fp,(an.trans au),S.drop _ (.cons _ (.cons _ (.cons _ (.cons _ .slnil))))⟩ (all1 ?_)
         refine Nx 15 4095 rfl<|W.app (α:=Str) (i:=0) S el34 rfl rfl rfl fq c8 b2 ?_
         intro fr iq fs bc c9 S
         have b:=b.up bc
         have c:=c.up bc
         have d:=d.up bc
         have j:=j.up bc
         have k:=k.up bc
         refine We ?_
         refine Cx [12] ⟨fs,((an.trans au).trans bc),S.drop _ (.cons _ (.cons _ (.cons _ (.cons _ .slnil))))⟩ (all1 ?_)
         refine Nx 15 8191 rfl<|W.bslice (α:=(List Str)) [fr] ([b1]:List (List Str)) S el33 rfl rfl rfl (by decide) (Go.Eng.encS ⟨(by rw [Sl.cellsOne c9]; rfl),_,(by rw [Sl.cellsOne c9]),c9⟩ enc0) ?_
         intro ir is ft br fu S
         have b:=b.up br
         have c:=c.up br
         have d:=d.up br
         have j:=j.up br
         have k:=k.up br
         refine We ?_
         refine Cx [13] ⟨ft,(((an.trans au).trans bc).trans br),S.drop _ (.cons _ (.cons _ (.cons _ (.cons _ (.cons _ .slnil)))))⟩ (all1 ?_)
         refine Nx 15 16383 rfl<|W.app (α:=(List Str)) (i:=3) S el33 rfl rfl rfl k fu b3 ?_
         intro da it db b5 fv S
         have b:=b.up b5
         have c:=c.up b5
         have d:=d.up b5
         have j:=j.up b5
         have k:=k.up b5
         refine We ?_
         refine Ct 14 15 32767 rfl (fun _ _=>(R.as (v:=da) rfl))<|WC.done ⟨db,((((an.trans au).trans bc).trans br).trans b5),S.drop _ (.cons _ (.cons _ (.cons _ (.cons _ (.cons _ .slnil)))))⟩ kr ?_
         have S3:=S
         replace S3:=S3.front 4 rfl
         replace S3:=S3.front 4 rfl
         replace S3:St t p _ db [.row da 34 1 a6.length,.row o 34 1 q.length]:=S3.drop _ (.cons_cons _ (.cons_cons _ (.cons _ (.cons _ (.cons _ .slnil)))))
         exact ⟨db,da,bh,bi,bj,a3,bk,ay,rfl,a4,a5,b,c,d,j,fv,S3⟩
        refine Nx 15 1991 rfl<|W.bslice (α:=Str) [(str ab)] ([ab]:List Str) S el34 rfl rfl rfl (by decide) (Go.Eng.encS ⟨rfl,rfl⟩ enc0) ?_
        intro iu iv dc ae dd S
        have b:=b.up ae
        have c:=c.up ae
        have d:=d.up ae
        have j:=j.up ae
        have k:=k.up ae
        refine We ?_
        refine Cx [3] ⟨dc,ae,S.drop _ (.cons _ (.cons _ (.cons _ .slnil)))⟩ (all1 ?_)
        refine Nx 15 1999 rfl<|W.idx (α:=(List Str)) d rfl rfl el33 cp ?_
        rintro iw _ fw ⟨ix,rfl,fx⟩
        refine We ?_
        refine Cx [4] ⟨dc,ae,S.drop _ (.cons _ (.cons _ (.cons _ .slnil)))⟩ (all1 ?_)
        refine Nx 15 2015 rfl ?_
        refine Lq S fw<|We ?_
        refine Cx [5] ⟨dc,ae,S.drop _ (.cons _ (.cons _ (.cons _ .slnil)))⟩ (all1 ?_)
        refine Nx 15 2047 rfl ?_
        have S:=S.addNil 9 1
        refine W.app (α:=Str) (i:=0) S el34 rfl rfl rfl Sl.nil fx b0 ?_
        intro iy iz fy av fz S
        have b:=b.up av
        have c:=c.up av
        have d:=d.up av
        have j:=j.up av
        have k:=k.up av
        have dd:=dd.up av
        refine We ?_
        refine Cx [11] ⟨fy,(ae.trans av),S.drop _ (.cons _ (.cons _ (.cons _ (.cons _ .slnil))))⟩ (all1 ?_)
        refine Nx 15 4095 rfl<|W.app (α:=Str) (i:=0) S el34 rfl rfl rfl fz dd b2 ?_
        intro f0 i0 f1 bd de S
        have b:=b.up bd
        have c:=c.up bd
        have d:=d.up bd
        have j:=j.up bd
        have k:=k.up bd
        refine We ?_
        refine Cx [12] ⟨f1,((ae.trans av).trans bd),S.drop _ (.cons _ (.cons _ (.cons _ (.cons _ .slnil))))⟩ (all1 ?_)
        refine Nx 15 8191 rfl<|W.bslice (α:=(List Str)) [f0] ([b1]:List (List Str)) S el33 rfl rfl rfl (by decide) (Go.Eng.encS ⟨(by rw [Sl.cellsOne de]; rfl),_,(by rw [Sl.cellsOne de]),de⟩ enc0) ?_
        intro i1 i2 f2 bs f3 S
        have b:=b.up bs
        have c:=c.up bs
        have d:=d.up bs
        have j:=j.up bs
        have k:=k.up bs
        refine We ?_
        refine Cx [13] ⟨f2,(((ae.trans av).trans bd).trans bs),S.drop _ (.cons _ (.cons _ (.cons _ (.cons _ (.cons _ .slnil)))))⟩ (all1 ?_)
        refine Nx 15 16383 rfl<|W.app (α:=(List Str)) (i:=3) S el33 rfl rfl rfl k f3 b3 ?_
        intro df i3 dh b6 f4 S
        have b:=b.up b6
        have c:=c.up b6
        have d:=d.up b6
        have j:=j.up b6
        have k:=k.up b6
        refine We ?_
        refine Ct 14 15 32767 rfl (fun _ _=>(R.as (v:=df) rfl))<|WC.done ⟨dh,((((ae.trans av).trans bd).trans bs).trans b6),S.drop _ (.cons _ (.cons _ (.cons _ (.cons _ (.cons _ .slnil)))))⟩ kr ?_
        have S3:=S
        replace S3:=S3.front 4 rfl
        replace S3:=S3.front 4 rfl
        replace S3:St t p _ dh [.row df 34 1 a6.length,.row o 34 1 q.length]:=S3.drop _ (.cons_cons _ (.cons_cons _ (.cons _ (.cons _ (.cons _ .slnil)))))
        exact ⟨dh,df,bh,bi,bj,a3,bk,ay,rfl,a4,a5,b,c,d,j,f4,S3⟩
       rintro f w ⟨a7,cb,f5,f6,f7,f8,f9,ga,gb,gc,gd,ge,gf,gg,gh,gi,S⟩
       refine Wg<|M' gd<|Lg<|A<|We ?_
       cases u
       exact ⟨rfl,⟨a7,cb,f5,f6,f7,f8,f9,ga,gb,gc,rfl,ge,gf,gg,gh,gi,S⟩⟩
      refine CF co<|Wx ?_
      cases u
      obtain rfl:=ek
      exact ⟨aa,bz,bh,bi,bj,a3,bk,ay,d3,a4,b,c,d,j,k,S⟩
     rintro f w ⟨a2,ca,gj,gk,gl,gm,gn,go,gp,gq,b,c,d,j,gr,S⟩
     refine Wg<|M' gq<|Lg<|A<|We ?_
     cases bg
     exact ⟨rfl,⟨a2,ca,gj,gk,gl,gm,gn,go,gp,rfl,b,c,d,j,gr,S⟩⟩
    refine CF cl<|Wx ?_
    cases bg
    obtain rfl:=eh
    exact ⟨ax,bx,du,dw,dx,dz,d0,b,c,d2,(S.drop _ (.cons_cons _ (.cons _ .slnil)))⟩
   rintro f w ⟨bw,b9,gs,gt,gu,gv,gw,b,c,gx,S⟩
   refine Wg<|M' gw<|A<|We<|Wg<|M' gv<|Lg<|A<|We ?_
   cases af
   exact ⟨rfl,⟨bw,b9,gs,gt,gu,rfl,rfl,b,c,gx,S⟩⟩
  refine CF ci<|Wx ?_
  cases af
  obtain rfl:=d9
  exact ⟨bu,o,ds,d,S⟩
 rintro f w ⟨b7,b8,di,dj,S⟩
 refine Ws<|Ws<|Wg<|M' di<|Nq dj<|Lc<|We<|B h fun gy bt h=>WP.cut (fun f w=>∃ (dk:Hp) (dl:Value),f 7=dl∧Sl dk dl gy∧St t p w dk []) ?_ ?_
 ·rcases condE bt with ⟨dm,bt⟩ | ⟨dm,bt⟩
  ·refine CT dm<|Wg<|M' di<|B bt fun i4 gz bt=>W.subHi (α:=(List Str)) dj rfl rfl el33 gz ?_
   intro g0 g1
   refine A<|We ?_
   cases bt
   exact ⟨b7,g0,rfl,g1,(S.drop _ (.cons _ .slnil))⟩
  refine CF dm<|Wk ?_
  cases bt
  exact ⟨b7,b8,di,dj,(S.drop _ (.cons _ .slnil))⟩
 rintro f w ⟨dk,dl,g2,g3,S⟩
 refine Ws<|Wg<|M' g2<|A<|We ?_
 exact WP.ret (Rl h S g3)
theorem zK8 {j:World} {b:Hp} (hw:Holds j b) (c:(List GAxis)) (d:(List GField)) (f:Bool) {k:Value} {l:Value} (q:Sl b k c) (t:Sl b l d) {r:((List Str)×Bool)} (h:zHq c d f=some r) :
  Con Tryz.prog 21 [k,l,(boo f)] j b (fun H' v=>∃ o:Value,v=(.tuple ⟨[o,(boo r.2)]⟩)∧Sl H' o r.1):=by
 refine CM 19 Tryz.func21 hw fun S=>?_
 refine Ws<|Wg<|A<|A<|We<|Ws<|Wg<|M<|M<|M<|B h fun r1 u h=>W.call S rfl (zLZ S.holds c d f q t u) ?_
 rintro v2 w3 H4 af S p
 refine A<|We<|Ws<|Ws<|Wg<|M<|Nq p<|Le<|We ?_
 rcases condE h with ⟨i,h⟩ | ⟨i,h⟩
 ·refine CT i<|Ws<|Wg<|A<|A<|We ?_
  cases h
  refine WP.ret (Out.two rfl S rfl rfl ?_)
  exact ⟨_,rfl,Sl.nil⟩
 refine CF i<|Wk<|Ws<|Wg<|M<|B h fun x8 x h=>W.idx (α:=(List Str)) p rfl rfl el33 x ?_
 rintro a9 _ z ⟨aj,rfl,aa⟩
 refine Lq S z<|A<|A<|We ?_
 cases h
 refine WP.ret (Out.two rfl S rfl rfl ?_)
 exact ⟨_,rfl,aa⟩
theorem zJa {u:World} {i:Hp} (hw:Holds u i) (j:(List GAxis)) (o:(List Str)) (q:(List Str)) {x:Value} {z:Value} {aa:Value} (d:Sl i x j) (k:Sl i z o) (l:Sl i aa q) {r:Bool} (h:zFL j o q=some r) :
  Cb Tryz.prog 22 [x,z,aa] u i r:=by
 refine CM 41 Tryz.func22 hw fun S=>?_
 refine Ws<|Wg<|A<|We<|Ws<|Ws<|Wg<|M<|Nq k<|M<|Nq d<|Lf ?_
 refine M ?_
 refine WL.grp 6 [14,15,16,17,18] 19 (boo (((o.length:Int) !=(j.length:Int))||((q.length:Int) !=(j.length:Int)))) ?_ ?_
 ·rcases boolE ((o.length:Int) !=(j.length:Int)) with c | c
  ·refine Gn c<|Gn c<|Gn c<|Gn c<|Gn c<|Pt c ?_
   exact We ⟨(orT c),ag,rfl⟩
  refine Gy c<|M<|Gy c<|Nq l<|Gy c<|M<|Gy c<|Nq d<|Gy c<|Lf<|Pf c ?_
  exact We ⟨(orF c),ag,rfl⟩
 intro us
 refine We ?_
 rcases condE h with ⟨ab,h⟩ | ⟨ab,h⟩
 ·refine CT ab<|Ws<|Wg<|A<|We ?_
  exact WP.ret (Rb h S)
 refine CF ab<|Wk<|Ws<|Ws<|Wg<|A<|We<|B h fun ac aq h=>WP.cut (fun f w=>match ac with | .inl _=>∃ (ai:Hp),St u i w ai [] | .inr _=>False) ?_ ?_
 ·refine Wb ?_
  refine WP.loopM (zBs j o q) (fun s f w=>match s with | aj=>∃ (p:Hp),f 0=x∧f 1=z∧f 2=aa∧f 7=(int aj)∧Sl p x j∧Sl p z o∧Sl p aa q∧St u i w p []) 0 ac aq ?_ ?_
  ·exact ⟨i,rfl,rfl,rfl,rfl,d,k,l,S⟩
  intro aj f w hI a3 b ak
  obtain ⟨p,h5,h6,h7,t,d,k,l,S⟩:=hI
  refine Ws<|Ws<|Wg<|M' t<|M' h5<|Nq d<|La<|We ?_
  rcases condE b with ⟨ae,b⟩ | ⟨ae,b⟩
  ·refine CT ae<|Wk<|Ws<|Wb<|Ws<|WP.quiet S kr kr<|QM' h5<|QM' t<|B b fun an ar b=>WQ.idx (α:=GAxis) d rfl rfl el22 ar ?_
   rintro a4 _ au ⟨a5,rfl,a6⟩
   refine QFc ?_
   have av:=At.add au 0 (by simp)
   refine QH (str an.fName) av<|QM' h6<|QM' t<|B b fun ao aw b=>WQ.idx (α:=Str) k rfl rfl el34 aw ?_
   rintro a7 _ ax rfl
   refine QH (str ao) ax<|QM' h7<|QM' t<|B b fun ap ay b=>WQ.idx (α:=Str) l rfl rfl el34 ay ?_
   rintro a8 _ az rfl
   refine QH (str ap) az<|B b fun a0 a1 b=>WQ.call (v:=boo a0) rfl (fun w H' hq S=>zIg S.holds an.fName ao ap a1)<|QNo<|WQ.nil ?_
   intro a9 a2 af S
   have d:=d.up af
   have k:=k.up af
   have l:=l.up af
   rcases condE b with ⟨ah,b⟩ | ⟨ah,b⟩
   ·refine CT ah<|Ws<|Wg<|A<|We ?_
    cases b
    obtain rfl:=ak
    exact WP.ret (Rb h S)
   refine CF ah<|Wk<|Wg<|M' t<|Lg<|A<|We ?_
   cases b
   exact ⟨rfl,⟨a2,h5,h6,h7,rfl,d,k,l,S⟩⟩
  refine CF ae<|Wx ?_
  cases b
  obtain rfl:=ak
  exact ⟨p,S⟩
 intro f w hM
 rcases ac with _ | e
 ·obtain ⟨ai,S⟩:=hM
  refine Ws<|Wg<|A<|We ?_
  exact WP.ret (Rb h S)
 exact hM.elim
end Go.Proofs

/- A part. -/
import Derived.Test.YtffangblkofjdaaGreatDoorEng38
import Derived.Test.YtffangblkofjdaaGreatDoorEng35
import Derived.Test.YtffangblkofjdaaGreatDoorPure5
import Derived.Test.YtffangblkofjdaaGreatDoorProg
import Derived.Test.YtffangblkofjdaaGreatDoorShelf
import Derived.Test.YtffangblkofjdaaGreatDoorVr1
import Derived.Shelf.Spec.SlicesInsertGrow
import Derived.Shelf.Spec.SlicesInsert
import Derived.Test.YtffangblkofjdaaGreatDoorVr15
namespace Go.Proofs
set_option maxHeartbeats 4000000
set_option maxRecDepth 10000
open Go.Eng Go.Eng.Pure
instance:Und Tryz.prog 3 (.int .i64):=⟨Tryz.underlying3⟩
instance:Und Tryz.prog 4 .bool:=⟨Tryz.underlying4⟩
instance:Und Tryz.prog 5 (.int .u8):=⟨Tryz.underlying5⟩
instance:Und Tryz.prog 9 .string:=⟨Tryz.underlying9⟩
instance:Und Tryz.prog 22 (.slice 62):=⟨Tryz.underlying22⟩
instance:Und Tryz.prog 23 (.slice 38):=⟨Tryz.underlying23⟩
instance:Und Tryz.prog 26 (.slice 41):=⟨Tryz.underlying26⟩
instance:Und Tryz.prog 35 (.slice 36):=⟨Tryz.underlying35⟩
instance:Und Tryz.prog 36 (.slice 9):=⟨Tryz.underlying36⟩
instance:Und Tryz.prog 66 (.pointer 69):=⟨Tryz.underlying66⟩
instance:Und Tryz.prog 67 (.slice 5):=⟨Tryz.underlying67⟩
instance:Und Tryz.prog 116 (.pointer 5):=⟨Tryz.underlying116⟩
instance:Und Tryz.prog 167 (.slice 3):=⟨Tryz.underlying167⟩
instance:Und Tryz.prog 175 (.int .i64):=⟨Tryz.underlying175⟩
instance:Und Tryz.prog 245 (.slice 244):=⟨Tryz.underlying245⟩
instance:Und Tryz.prog 266 (.slice 270):=⟨Tryz.underlying266⟩
set_option linter.unusedVariables false
structure Tryz.Gl (w:World):Prop where
 pow10:Lib.TabIs Tryz.prog w "internal/strconv.uint64pow10" .u64 Lib.pow10Tab
theorem Tryz.Gl.post {b w:World} {c H:Hp} (h:Tryz.Gl b) (p:Post b c w H):Tryz.Gl w :=
 ⟨zQ9 (by kernel_rfl:Tryz.prog.globalNamed "internal/strconv.uint64pow10"=some 7) h.pow10 p⟩
theorem el36:Elem Tryz.prog 36 9 1:=zEu kr
theorem lay9:lay Tryz.prog 9=some (false,1):=by kernel_rfl
instance:Lay Tryz.prog 9 (false,1):=⟨lay9⟩
theorem zBa {i:World} {c:Hp} (hw:Holds i c) (hG:Tryz.Gl i) (j:(List Str)) (o:(Str→Option Bool)) {k:Value} {kp_f:FuncId} {cp_f:List Value} (d:Sl c k j) (Fp_f:∀ {w:World} {H:Hp},c.le H→Holds w H→Tryz.Gl w→∀ (z:Str) (rr:Bool),o z=some rr→Con Tryz.prog kp_f ([(str z)]++cp_f) w H (fun H' v=>v=(boo rr))) {r:Int} (h:zAT j o=some r) :
  Ci Tryz.prog 261 [k,(.func (.func kp_f) #[] cp_f.toArray)] i c r:=by
 refine CM 19 Tryz.func261 hw fun S=>?_
 refine Ws<|Wg<|A<|We<|Ws<|Ws<|Wg<|M<|Nq d<|M<|We<|B h fun p ah h=>WP.cut (fun f w=>match p with | .inl _=>∃ (H7:Hp),St i c w H7 [] | .inr _=>False) ?_ ?_
 ·refine Wb ?_
  refine WP.loopM (zAS j o) (fun s f w=>match s with | ab=>∃ (l:Hp),f 0=k∧f 1=(.func (.func kp_f) #[] cp_f.toArray)∧f 7=(int (j.length:Int))∧f 8=(int ab)∧Sl l k j∧St i c w l []) 0 p ah ?_ ?_
  ·exact ⟨c,rfl,rfl,rfl,rfl,d,S⟩
  intro ab f w hI y8 b ac
  obtain ⟨l,h2,h3,h4,t,d,S⟩:=hI
  refine Ws<|Wg<|La' t h4<|We<|Ws ?_
  rcases condE b with ⟨u,b⟩ | ⟨u,b⟩
  ·refine CT u<|Wk<|Ws<|Wb<|Ws<|Wg<|M' t<|A<|We<|Ws<|Wg<|M' h3 ?_
   refine M' h2<|M<|B b fun ai aj b=>W.idx (α:=Str) d rfl rfl el36 aj ?_
   rintro ap _ ak rfl
   refine Lq S ak<|B b fun aq al b=>W.callv S rfl rfl (Fp_f (S.post.le) S.holds (hG.post S.post) ai _ al) ?_
   rintro au av am an S rfl
   have d:=d.up an
   refine We ?_
   rcases condE b with ⟨x,b⟩ | ⟨x,b⟩
   ·refine CT x<|Ws<|Wg<|M<|A<|We ?_
    obtain rfl:=oi b
    obtain rfl:=ac
    exact WP.ret (Ri h S)
   refine CF x<|Wk<|Wg<|Lg' t rfl<|M<|We ?_
   obtain rfl:=oi b
   exact ⟨rfl,⟨am,h2,h3,h4,rfl,d,S⟩⟩
  refine CF u<|Wx ?_
  obtain rfl:=oi b
  obtain rfl:=ac
  exact ⟨l,S⟩
 intro f w hM
 rcases p with _ | e
 ·obtain ⟨H7,S⟩:=hM
  refine Ws<|Wg<|A<|We ?_
  exact WP.ret (Ri h S)
 exact hM.elim
theorem zer9:zer Tryz.prog 9=some [(str [])]:=by kernel_rfl
theorem zCp {k ws:World} {p Hs:Hp} {l:List Ent} (hG:Tryz.Gl k) (b:(List Str)) (t:(Str→Option Bool)) {v:Value} {en:Ent} {kd:FuncId} {cd:List Value} {jb bb0:Nat} {Tb:TypeId} {csb:List Value} (S:St k p ws Hs (en :: l)) (hj:l[jb]?=some (.box bb0 Tb csb)) (hne:csb≠[]) (RM:MR (α:=Str) Hs en 9 v b)
  (F:∀ {w:World} {H:Hp},Hs.le H→Holds w H→At H ⟨bb0,0,none⟩ csb→Tryz.Gl w→∀ (x0:Str) (rr:Bool),t x0=some rr→Con Tryz.prog kd ([(str x0)]++cd) w H (fun H' v=>v=(boo rr)))
  {r:List Str} (h:zAj b t=some r) :
  ConS Tryz.prog 191 [v,(.func (.func kd) #[] cd.toArray)] k p ws Hs l (fun H' v' L'=>∃ en',L'=[en']∧MR (α:=Str) H' en' 9 v' r):=by
 unfold zAj at h
 refine ConS.mk (N:=42) Tryz.func191 rfl rfl kr rfl<|Ws<|Wg<|A<|We<|Ws<|Wg<|M<|M<|B h fun i hi h=>?_
 obtain ⟨HB,hleB,hBb,_,SB⟩:=S.settle (i:=jb+1) (by simpa using hj)
 have hAt:At HB ⟨bb0,0,none⟩ csb:=⟨Tb,csb,rfl,hBb,[],by simp⟩
 obtain ⟨H1,ac,af,R1⟩:=SB.view_ (i:=0) rfl (RM.mono hleB)
 refine W.callF S rfl (zBa af (hG.post S.post) b t R1 (fun hle hw=>F (Hp.le.trans hleB (Hp.le.trans ac hle)) hw ((hAt.mono ac hne).mono hle hne)) hi) ?_
 rintro _ w1 H2 rfl S
 refine A<|We<|Ws<|Ws<|Wg<|M<|Le<|We ?_
 unfold delR at h
 rcases condE h with ⟨hc,h⟩ | ⟨hc,h⟩
 ·refine CT hc<|Ws<|Wg<|M<|A<|We ?_
  obtain rfl:=oi h
  refine WP.ret (OutS.one (L':=[en]) rfl lr S rfl ?_)
  exact ⟨en,rfl,RM⟩
 refine CF hc<|Wk ?_
 rcases condE h with ⟨hb,h⟩ | ⟨hb,h⟩
 case inr=>cases h
 have hb:=of_decide_eq_true hb
 obtain ⟨c,rfl⟩:=Int.eq_ofNat_of_zero_le hb.1
 have ad:c<b.length:=by omega
 rcases RM with ⟨_,hnil,_⟩ | ⟨g,cap,cur0,cs0,rfl,rfl,hnc,hcm,hcs,htk,hC⟩
 ·subst hnil; exact absurd ad (Nat.not_lt_zero _)
 have D0:DelI Hs b cur0 (b.take c) (c+1):=DelI.start htk hC ad
 have hmax:b.length≤9223372036854775807:=by simp only [maxLen] at hcm; omega
 have aj:(b.take c).length=c:=by rw [List.length_take]; omega
 refine Ws<|Ws<|Wg<|M<|Lg<|A<|We ?_
 refine WP.cut (fun f w=>∃ (m:Nat) (cur:Array Value),f 0=.slice (some ⟨g,0,none⟩) b.length cap∧f 5=int r.length∧b.length≤m∧cur.size=cap*1∧DelI Hs b cur r m∧St k p w Hs (.obj g (.cells cur 9 (0,0)) :: l)) ?_ ?_
 ·refine Wb ?_
  refine WP.loopM (delL b t) (fun s f w=>∃ (m:Nat) (cur:Array Value),s.2=m∧f 0=.slice (some ⟨g,0,none⟩) b.length cap∧f 1=.func (.func kd) #[] cd.toArray∧f 5=int s.1.length∧f 6=int m∧cur.size=cap*1∧DelI Hs b cur s.1 m∧St k p w Hs (.obj g (.cells cur 9 (0,0)) :: l)) _ _ h ?_ ?_
  ·refine ⟨c+1,cur0,rfl,rfl,rfl,?_,?_,hcs,D0,S⟩
   ·show int c=int ((b.take (Int.toNat c)).length:Nat)
    rw [Int.toNat_natCast,aj]
   show int (wr ((c:Int)+1))=int ((c+1:Nat):Int)
   rw [wr_eq ⟨by omega,by omega⟩]; rfl
  rintro ⟨K,mi⟩ f w ⟨m,cur,rfl,d,h1,j,u,hsz,D,S⟩ y hy hyr
  unfold delL at hy
  refine Ws<|Ws<|Wg<|M' u<|M' d<|Nv<|La<|We ?_
  rcases condE hy with ⟨hcm,hy⟩ | ⟨hcm,hy⟩
  ·refine CT hcm<|Wk ?_
   have hmn:m<b.length:=by have:=of_decide_eq_true hcm; omega
   refine B hy fun x hx hy=>?_
   obtain rfl:b[m]=x:=by
    unfold xnth at hx
    rw [if_pos (by omega)] at hx
    have:=(List.getElem?_eq_some_iff.1 hx).2
    exact this
   obtain ⟨_,ae,_,rfl⟩:=D.look hmn
   refine Ws<|Wb<|Ws<|Wg<|M' d<|M' u ?_
   refine WL.w (R.idxN (m:=(m:Int)) rfl rfl el36 ⟨by omega,by omega⟩) ?_
   refine WL.w (R.loadO1 (i:=0) (o:=m*1) (v:=str b[m]) S rfl rfl lay9 ae)<|A<|We<|Ws<|Wg ?_
   refine M' h1<|M<|B hy fun bb hbb hy=>?_
   obtain ⟨HB,hleB,hBb,_,SB⟩:=S.settle (i:=jb+1) (by simpa using hj)
   refine W.callvF S rfl rfl (F hleB SB.holds ⟨Tb,csb,rfl,hBb,[],by simp⟩ (hG.post S.post) b[m] bb hbb) ?_
   rintro _ aq au rfl S
   refine No<|We ?_
   cases bb with
   | true =>
    refine CF rfl<|Wk<|Wg<|M' u<|Lg<|A<|We ?_
    obtain rfl:=oi hy
    refine ⟨rfl,m+1,cur,rfl,d,h1,j,?_,hsz,D.skip hmn,S⟩
    show int (wr ((m:Int)+1))=int ((m+1:Nat):Int)
    rw [wr_eq ⟨by omega,by omega⟩]; rfl
   | false =>
    refine CT rfl<|Ws<|Wg<|M' d<|M' j<|M ?_
    have hKm:K.length<m:=D.1
    refine WL.w (R.idxN (m:=(K.length:Int)) rfl rfl el36 ⟨by omega,by omega⟩) ?_
    refine W.storeO (i:=0) (o:=K.length*1) S rfl rfl rfl lay9 rfl rfl (by omega) ?_
    intro av cur' hcur S
    have hcur:cur'.toList=cur.toList.take (K.length*1)++[str b[m]]++cur.toList.drop (K.length*1+1):=hcur
    have D2:=D.keep hmn ae hcur
    refine We<|Wg<|M' j<|Lg<|A<|We<|Wg<|M' u<|Lg<|A<|We ?_
    obtain rfl:=oi hy
    refine ⟨rfl,m+1,cur',rfl,d,h1,?_,?_,?_,D2,S⟩
    ·show int (wr ((K.length:Int)+1))=int (((K++[b[m]]).length:Nat):Int)
     rw [wr_eq ⟨by omega,by omega⟩,List.length_append]; rfl
    ·show int (wr ((m:Int)+1))=int ((m+1:Nat):Int)
     rw [wr_eq ⟨by omega,by omega⟩]; rfl
    rw [← Array.length_toList,hcur]
    simp only [List.length_append,List.length_take,List.length_drop,List.length_cons,List.length_nil]
    have hcl:cur.toList.length=cap*1:=hsz
    rw [hcl]
    omega
  refine CF hcm<|Wx ?_
  obtain rfl:=oi hy
  obtain rfl:=hyr
  have hcm:=of_decide_eq_false hcm
  exact ⟨m,cur,d,j,by omega,hsz,D,S⟩
 rintro f w ⟨m,cur,d,j,hm,hsz,D,S⟩
 have hKm:=D.1
 have hmp:=D.2.1
 obtain ⟨kc,hkc,hkC⟩:=D.front
 refine Ws<|Wg<|M' d<|M' j ?_
 refine WL.w (R.sliceLo rfl rfl el36 (by omega) (by omega))<|W.clearO (α:=Str) (i:=0) S el36 (fun z hz=>by rw [zer9] at hz; obtain rfl:=oi hz; rfl) rfl rfl (by show r.length*1+(b.length - r.length)*1≤cur.size; omega) ?_
 intro aw cur2 al am S
 refine We<|Ws<|Wg<|M' d<|M' j ?_
 refine WL.w (R.sliceHi rfl rfl el36 (by omega))<|A<|We ?_
 refine WP.ret (OutS.one (L':=[.obj g (.cells cur2 9 (0,0))]) rfl lr S rfl ?_)
 exact ⟨_,rfl,.inr ⟨g,cap,cur2,kc,rfl,rfl,by omega,hcm,by rw [al]; exact hsz,am.trans hkc,hkC⟩⟩
end Go.Proofs
namespace Go.Proofs
open Go Go.Eng Go.VI Go.Eng.Pure
set_option linter.unusedVariables false
set_option maxRecDepth 10000
set_option maxHeartbeats 4000000
def UX:List SX:=[⟨25,GTable,inferInstance⟩,⟨38,GEntry,inferInstance⟩,⟨41,GField,inferInstance⟩,⟨62,GAxis,inferInstance⟩,⟨84,GResponse,inferInstance⟩,⟨88,GRequest,inferInstance⟩,⟨90,GURI,inferInstance⟩,⟨153,GControl,inferInstance⟩,⟨183,GPref,inferInstance⟩,⟨218,GETag,inferInstance⟩,⟨239,Gcachecontrol_directive,inferInstance⟩,⟨270,GParam,inferInstance⟩,⟨338,GMediaType,inferInstance⟩]
def UPs:List (SP UX):=[
 ⟨⟨25,GTable,inferInstance⟩,[(.sl (.st 62)),(.sl (.st 38))],fun x=>(x.fAxes,x.fEntries,()),fun y=>⟨y.1,y.2.1⟩,fun ⟨u0,u1,h,c,b⟩=>⟨_,_,h,c,⟨_,_,rfl,b,rfl⟩⟩,fun ⟨d,p,f,c,⟨i,k,j,b,hn⟩⟩=>⟨d,i,(by rw [f,j,show k=[] from hn]),c,b⟩⟩,
 ⟨⟨38,GEntry,inferInstance⟩,[(.sl (.sl .str)),(.sl .str),(.sl .str),.str,(.sl (.st 41)),.str,.int,.int],fun x=>(x.fKeys,x.fVary,x.fSnapshot,x.fReason,x.fFields,x.fBody,x.fRequested,x.fReceived,()),fun y=>⟨y.1,y.2.1,y.2.2.1,y.2.2.2.1,y.2.2.2.2.1,y.2.2.2.2.2.1,y.2.2.2.2.2.2.1,y.2.2.2.2.2.2.2.1⟩,fun ⟨u0,u1,u2,u4,h,c,b,l,r⟩=>⟨_,_,h,c,⟨_,_,rfl,b,⟨_,_,rfl,l,⟨_,_,rfl,rfl,⟨_,_,rfl,r,⟨_,_,rfl,rfl,⟨_,_,rfl,rfl,⟨_,_,rfl,rfl,rfl⟩⟩⟩⟩⟩⟩⟩⟩,fun ⟨d,p,f,c,⟨i,k,j,b,⟨t,r2,u,l,⟨v,r3,z,o,⟨v4,r4,h4,r,⟨v5,r5,h5,R5,⟨v6,r6,h6,R6,⟨v7,r7,h7,R7,hn⟩⟩⟩⟩⟩⟩⟩⟩=>⟨d,i,t,v4,(by rw [f,j,u,z,show v=_ from o,h4,h5,show v5=_ from R5,h6,show v6=_ from R6,h7,show v7=_ from R7,show r7=[] from hn]),c,b,l,r⟩⟩,
 ⟨⟨41,GField,inferInstance⟩,[.str,.str],fun x=>(x.fName,x.fValue,()),fun y=>⟨y.1,y.2.1⟩,fun h=>⟨_,_,h,rfl,⟨_,_,rfl,rfl,rfl⟩⟩,fun ⟨d,p,f,c,⟨i,k,j,b,hn⟩⟩=>(by rw [f,show d=_ from c,j,show i=_ from b,show k=[] from hn]; rfl)⟩,
 ⟨⟨62,GAxis,inferInstance⟩,[.str,(.sl .str)],fun x=>(x.fName,x.fValues,()),fun y=>⟨y.1,y.2.1⟩,fun ⟨u1,h,b⟩=>⟨_,_,h,rfl,⟨_,_,rfl,b,rfl⟩⟩,fun ⟨d,p,f,c,⟨i,k,j,b,hn⟩⟩=>⟨i,(by rw [f,show d=_ from c,j,show k=[] from hn]),b⟩⟩,
 ⟨⟨84,GResponse,inferInstance⟩,[.int,.int,.str,(.sl (.st 41)),.str],fun x=>(x.fMinor,x.fStatus,x.fReason,x.fFields,x.fBody,()),fun y=>⟨y.1,y.2.1,y.2.2.1,y.2.2.2.1,y.2.2.2.2.1⟩,fun ⟨u3,h,o⟩=>⟨_,_,h,rfl,⟨_,_,rfl,rfl,⟨_,_,rfl,rfl,⟨_,_,rfl,o,⟨_,_,rfl,rfl,rfl⟩⟩⟩⟩⟩,fun ⟨d,p,f,c,⟨i,k,j,b,⟨t,r2,u,l,⟨v,r3,z,o,⟨v4,r4,h4,r,hn⟩⟩⟩⟩⟩=>⟨v,(by rw [f,show d=_ from c,j,show i=_ from b,u,show t=_ from l,z,h4,show v4=_ from r,show r4=[] from hn]),o⟩⟩,
 ⟨⟨88,GRequest,inferInstance⟩,[.str,.str,.int,(.sl (.st 41)),.str],fun x=>(x.fMethod,x.fTarget,x.fMinor,x.fFields,x.fBody,()),fun y=>⟨y.1,y.2.1,y.2.2.1,y.2.2.2.1,y.2.2.2.2.1⟩,fun ⟨u3,h,o⟩=>⟨_,_,h,rfl,⟨_,_,rfl,rfl,⟨_,_,rfl,rfl,⟨_,_,rfl,o,⟨_,_,rfl,rfl,rfl⟩⟩⟩⟩⟩,fun ⟨d,p,f,c,⟨i,k,j,b,⟨t,r2,u,l,⟨v,r3,z,o,⟨v4,r4,h4,r,hn⟩⟩⟩⟩⟩=>⟨v,(by rw [f,show d=_ from c,j,show i=_ from b,u,show t=_ from l,z,h4,show v4=_ from r,show r4=[] from hn]),o⟩⟩,
 ⟨⟨90,GURI,inferInstance⟩,[.str,.int,.str,.str,.boo],fun x=>(x.fHost,x.fPort,x.fPath,x.fQuery,x.fHasQuery,()),fun y=>⟨y.1,y.2.1,y.2.2.1,y.2.2.2.1,y.2.2.2.2.1⟩,fun h=>⟨_,_,h,rfl,⟨_,_,rfl,rfl,⟨_,_,rfl,rfl,⟨_,_,rfl,rfl,⟨_,_,rfl,rfl,rfl⟩⟩⟩⟩⟩,fun ⟨d,p,f,c,⟨i,k,j,b,⟨t,r2,u,l,⟨v,r3,z,o,⟨v4,r4,h4,r,hn⟩⟩⟩⟩⟩=>(by rw [f,show d=_ from c,j,show i=_ from b,u,show t=_ from l,z,show v=_ from o,h4,show v4=_ from r,show r4=[] from hn]; rfl)⟩,
 ⟨⟨153,GControl,inferInstance⟩,[.boo,.boo,.boo,.boo,.boo,.boo,.boo,.int,.int,.int,.int],fun x=>(x.fNoStore,x.fNoCache,x.fMustRevalidate,x.fProxyRevalidate,x.fPrivate,x.fPublic,x.fOnlyIfCached,x.fMaxAge,x.fSMaxAge,x.fMinFresh,x.fMaxStale,()),fun y=>⟨y.1,y.2.1,y.2.2.1,y.2.2.2.1,y.2.2.2.2.1,y.2.2.2.2.2.1,y.2.2.2.2.2.2.1,y.2.2.2.2.2.2.2.1,y.2.2.2.2.2.2.2.2.1,y.2.2.2.2.2.2.2.2.2.1,y.2.2.2.2.2.2.2.2.2.2.1⟩,fun h=>⟨_,_,h,rfl,⟨_,_,rfl,rfl,⟨_,_,rfl,rfl,⟨_,_,rfl,rfl,⟨_,_,rfl,rfl,⟨_,_,rfl,rfl,⟨_,_,rfl,rfl,⟨_,_,rfl,rfl,⟨_,_,rfl,rfl,⟨_,_,rfl,rfl,⟨_,_,rfl,rfl,rfl⟩⟩⟩⟩⟩⟩⟩⟩⟩⟩⟩,fun ⟨d,p,f,c,⟨i,k,j,b,⟨t,r2,u,l,⟨v,r3,z,o,⟨v4,r4,h4,r,⟨v5,r5,h5,R5,⟨v6,r6,h6,R6,⟨v7,r7,h7,R7,⟨v8,r8,h8,R8,⟨v9,r9,h9,R9,⟨a5,a6,a7,a8,hn⟩⟩⟩⟩⟩⟩⟩⟩⟩⟩⟩=>(by rw [f,show d=_ from c,j,show i=_ from b,u,show t=_ from l,z,show v=_ from o,h4,show v4=_ from r,h5,show v5=_ from R5,h6,show v6=_ from R6,h7,show v7=_ from R7,h8,show v8=_ from R8,h9,show v9=_ from R9,a7,show a5=_ from a8,show a6=[] from hn]; rfl)⟩,
 ⟨⟨183,GPref,inferInstance⟩,[.str,.int],fun x=>(x.fRange,x.fQ,()),fun y=>⟨y.1,y.2.1⟩,fun h=>⟨_,_,h,rfl,⟨_,_,rfl,rfl,rfl⟩⟩,fun ⟨d,p,f,c,⟨i,k,j,b,hn⟩⟩=>(by rw [f,show d=_ from c,j,show i=_ from b,show k=[] from hn]; rfl)⟩,
 ⟨⟨218,GETag,inferInstance⟩,[.boo,.str],fun x=>(x.fWeak,x.fTag,()),fun y=>⟨y.1,y.2.1⟩,fun h=>⟨_,_,h,rfl,⟨_,_,rfl,rfl,rfl⟩⟩,fun ⟨d,p,f,c,⟨i,k,j,b,hn⟩⟩=>(by rw [f,show d=_ from c,j,show i=_ from b,show k=[] from hn]; rfl)⟩,
 ⟨⟨239,Gcachecontrol_directive,inferInstance⟩,[.int,.str],fun x=>(x.fform,x.fvalue,()),fun y=>⟨y.1,y.2.1⟩,fun h=>⟨_,_,h,rfl,⟨_,_,rfl,rfl,rfl⟩⟩,fun ⟨d,p,f,c,⟨i,k,j,b,hn⟩⟩=>(by rw [f,show d=_ from c,j,show i=_ from b,show k=[] from hn]; rfl)⟩,
 ⟨⟨270,GParam,inferInstance⟩,[.str,.str],fun x=>(x.fName,x.fValue,()),fun y=>⟨y.1,y.2.1⟩,fun h=>⟨_,_,h,rfl,⟨_,_,rfl,rfl,rfl⟩⟩,fun ⟨d,p,f,c,⟨i,k,j,b,hn⟩⟩=>(by rw [f,show d=_ from c,j,show i=_ from b,show k=[] from hn]; rfl)⟩,
 ⟨⟨338,GMediaType,inferInstance⟩,[.str,.str,(.sl (.st 270))],fun x=>(x.fType,x.fSub,x.fParams,()),fun y=>⟨y.1,y.2.1,y.2.2.1⟩,fun ⟨u2,h,l⟩=>⟨_,_,h,rfl,⟨_,_,rfl,rfl,⟨_,_,rfl,l,rfl⟩⟩⟩,fun ⟨d,p,f,c,⟨i,k,j,b,⟨t,r2,u,l,hn⟩⟩⟩=>⟨t,(by rw [f,show d=_ from c,j,show i=_ from b,u,show r2=[] from hn]),l⟩⟩]
noncomputable def UU:UV:=mkU UX UPs rfl (fun _=>none) Tryz.Gl Tryz.Gl.post
theorem c134:FE.ok (U:=UU) Tryz.prog ⟨134,[.str],[.int,.boo],fun x=>zEi x⟩:=mk anil (.n .e (.n .e (.n (.n .e (.lp ⟨[⟨.sl 4,.int,none⟩,⟨.sl 8,.int,none⟩],some [],[]⟩ (some ⟨[⟨.sl 4,.int,none⟩],some [],[]⟩) true .e)) .e))) Tryz.func134
theorem c263:FE.ok (U:=UU) Tryz.prog ⟨263,[.int],[.str],fun x=>zJo x⟩:=mk anil (.e) Tryz.func263
theorem c265:FE.ok (U:=UU) Tryz.prog ⟨265,[.int],[.str],fun x=>zL7 x⟩:=mk anil (.e) Tryz.func265
theorem c226:FE.ok (U:=UU) Tryz.prog ⟨226,[.int,.int],[.int],fun x=>zHn x.1 x.2⟩:=mk anil (.e) Tryz.func226
theorem c270:FE.ok (U:=UU) Tryz.prog ⟨270,[.byt],[.boo],fun x=>zBn x⟩:=mk anil (.e) Tryz.func270
theorem c70:FE.ok (U:=UU) Tryz.prog ⟨70,[.int,.str],[.boo],fun x=>zFm x.1 x.2⟩:=mk anil (.e) Tryz.func70
theorem c189:FE.ok (U:=UU) Tryz.prog ⟨189,[.int,.int,(.st 153),(.st 153)],[.boo],fun x=>zI0 x.1 x.2.1 x.2.2.1 x.2.2.2⟩:=mk anil (.e) Tryz.func189
theorem c298:FE.ok (U:=UU) Tryz.prog ⟨298,[.str],[.boo],fun x=>zIH x⟩:=mk anil (.n .e (.n (.n .e (.lp ⟨[⟨.sl 6,.int,none⟩],some [],[]⟩ (some ⟨[],some [],[]⟩) true .e)) .e)) Tryz.func298
theorem c5:FE.ok (U:=UU) Tryz.prog ⟨5,[(.sl (.st 41))],[.boo],fun x=>zDY x⟩:=mk anil (.n .e (.n (.n .e (.lp ⟨[⟨.sl 3,.int,none⟩],some [],[]⟩ (some ⟨[],some [],[]⟩) true .e)) .e)) Tryz.func5
theorem c45:FE.ok (U:=UU) Tryz.prog ⟨45,[.byt],[.boo],fun x=>zGe x⟩:=mk anil (.n .e (.n (.n .e (.j ⟨[],some [],[]⟩ true (.n (.n (.n .e (.j ⟨[⟨.sl 4,.boo,none⟩],some [],[]⟩ false .e)) .e) .e))) .e)) Tryz.func45
theorem c24:FE.ok (U:=UU) Tryz.prog ⟨24,[.str],[.boo],fun x=>zAW x⟩:=mk (fcons c45 anil) (.n .e (.n (.n .e (.lp ⟨[⟨.sl 6,.int,none⟩],some [],[]⟩ (some ⟨[],some [],[]⟩) true .e)) .e)) Tryz.func24
theorem c256:FE.ok (U:=UU) Tryz.prog ⟨256,[.str,.str],[.boo],fun x=>zA9 x.1 x.2⟩:=mk anil (.e) Tryz.func256
theorem c178:FE.ok (U:=UU) Tryz.prog ⟨178,[.str,.str],[.boo],fun x=>zDV x.1 x.2⟩:=mk (fcons c256 anil) (.e) Tryz.func178
theorem wc {l:List (GE UU)} (W:∀ {l:List (GE UU)},GamOk Tryz.prog (gal l)→WE Tryz.prog UU) (h:GamOk Tryz.prog (gal l)):GamOk Tryz.prog (gal (⟨(W h).id,(W h).S⟩ :: l)):=wcons (W h) h
noncomputable def w209 {l:List (GE UU)} (h:GamOk Tryz.prog (gal l)):WE Tryz.prog UU:=wJ 209 h (.e) [.boo] [] Tryz.func209
theorem c210:FE.ok (U:=UU) Tryz.prog ⟨210,[(.st 218)],[.boo],fun x=>zJa x⟩:=mk anil (.e) Tryz.func210
theorem c138:FE.ok (U:=UU) Tryz.prog ⟨138,[(.st 218),(.st 218)],[.boo],fun x=>zPX x.1 x.2⟩:=mk (wc w209 (fcons c210 anil)) (.e) Tryz.func138
theorem c217:FE.ok (U:=UU) Tryz.prog ⟨217,[(.sl .str)],[.int],fun x=>zD8 x⟩:=mk anil (.n .e (.n .e (.n (.n .e (.lp ⟨[⟨.sl 3,.int,none⟩,⟨.sl 8,.int,none⟩],some [],[]⟩ (some ⟨[⟨.sl 3,.int,none⟩],some [],[]⟩) false .e)) .e))) Tryz.func217
theorem c145:FE.ok (U:=UU) Tryz.prog ⟨145,[(.st 38)],[.int],fun x=>zJz x⟩:=mk (fcons c217 anil) (.n .e (.n .e (.n (.n .e (.lp ⟨[⟨.sl 3,.int,none⟩,⟨.sl 27,.int,none⟩],some [],[]⟩ (some ⟨[⟨.sl 3,.int,none⟩],some [],[]⟩) false .e)) (.n (.n .e (.lp ⟨[⟨.sl 3,.int,none⟩,⟨.sl 45,.int,none⟩],some [],[]⟩ (some ⟨[⟨.sl 3,.int,none⟩],some [],[]⟩) false .e)) .e)))) Tryz.func145
theorem c153:FE.ok (U:=UU) Tryz.prog ⟨153,[.str],[.boo],fun x=>zF9 x⟩:=mk anil (.e) Tryz.func153
theorem c84:FE.ok (U:=UU) Tryz.prog ⟨84,[.str,.int],[.boo],fun x=>zHa x.1 x.2⟩:=mk (fcons c153 anil) (.e) Tryz.func84
theorem c304:FE.ok (U:=UU) Tryz.prog ⟨304,[.int],[.int],fun x=>zHD x⟩:=mk anil (.e) Tryz.func304
theorem c327:FE.ok (U:=UU) Tryz.prog ⟨327,[.int],[.boo],fun x=>zK8 x⟩:=mk anil (.e) Tryz.func327
theorem c303:FE.ok (U:=UU) Tryz.prog ⟨303,[.int,.int],[.int],fun x=>zGx x.1 x.2⟩:=mk (fcons c327 anil) (.e) Tryz.func303
theorem c264:FE.ok (U:=UU) Tryz.prog ⟨264,[.int,.int,.int],[.int],fun x=>zOj x.1 x.2.1 x.2.2⟩:=mk (fcons c304 (fcons c303 anil)) (.n .e (.n .e (.n .e (.n (.n .e (.lp ⟨[⟨.sl 7,.int,none⟩,⟨.sl 8,.int,none⟩],some [],[]⟩ (some ⟨[⟨.sl 7,.int,none⟩],some [],[]⟩) false .e)) .e)))) Tryz.func264
noncomputable def w282 {l:List (GE UU)} (h:GamOk Tryz.prog (gal l)):WE Tryz.prog UU:=wJ 282 h (.n .e (.n .e (.n (.n .e (.lp ⟨[⟨.sl 17,.int,none⟩],some [],[]⟩ (some ⟨[],some [],[]⟩) true .e)) .e))) [.boo] [] Tryz.func282
theorem c39:FE.ok (U:=UU) Tryz.prog ⟨39,[(.sl .str),(.sl .str)],[.boo],fun x=>zAn x.1 x.2⟩:=mk anil (.n .e (.n .e (.n (.n .e (.lp ⟨[⟨.sl 13,.int,none⟩],some [],[]⟩ (some ⟨[],some [],[]⟩) true .e)) .e))) Tryz.func39
theorem c283:FE.ok (U:=UU) Tryz.prog ⟨283,[(.st 62),(.st 62)],[.boo],fun x=>zFj x.1 x.2⟩:=mk (fcons c39 anil) (.e) Tryz.func283
theorem c230:FE.ok (U:=UU) Tryz.prog ⟨230,[(.sl (.st 62)),(.sl (.st 62))],[.boo],fun x=>zJw x.1 x.2⟩:=mk (wc w282 (fcons c283 anil)) (.e) Tryz.func230
theorem c214:FE.ok (U:=UU) Tryz.prog ⟨214,[(.st 25)],[.int],fun x=>zOF x⟩:=mk (fcons c145 anil) (.n .e (.n .e (.n (.n .e (.lp ⟨[⟨.sl 3,.int,none⟩,⟨.sl 9,.int,none⟩],some [],[]⟩ (some ⟨[⟨.sl 3,.int,none⟩],some [],[]⟩) false .e)) .e))) Tryz.func214
theorem c23:FE.ok (U:=UU) Tryz.prog ⟨23,[(.sl .str)],[.boo],fun x=>zCM x⟩:=mk anil (.n .e (.n (.n .e (.lp ⟨[⟨.sl 3,.int,none⟩],some [],[]⟩ (some ⟨[],some [],[]⟩) true .e)) .e)) Tryz.func23
theorem c10:FE.ok (U:=UU) Tryz.prog ⟨10,[(.sl (.st 62))],[.boo],fun x=>zHo x⟩:=mk (fcons c23 anil) (.n .e (.n (.n .e (.lp ⟨[⟨.sl 3,.int,none⟩],some [],[]⟩ (some ⟨[],some [],[]⟩) true .e)) .e)) Tryz.func10
theorem c22:FE.ok (U:=UU) Tryz.prog ⟨22,[(.sl (.sl .str))],[.boo],fun x=>zHj x⟩:=mk (fcons c23 anil) (.n .e (.n (.n .e (.lp ⟨[⟨.sl 3,.int,none⟩],some [],[]⟩ (some ⟨[],some [],[]⟩) true .e)) .e)) Tryz.func22
theorem c9:FE.ok (U:=UU) Tryz.prog ⟨9,[(.st 38)],[.boo],fun x=>zGR x⟩:=mk (fcons c23 (fcons c22 (fcons c5 anil))) (.e) Tryz.func9
theorem c4:FE.ok (U:=UU) Tryz.prog ⟨4,[(.st 25)],[.boo],fun x=>zGS x⟩:=mk (fcons c10 (fcons c9 anil)) (.n .e (.n (.n .e (.lp ⟨[⟨.sl 3,.int,none⟩],some [],[]⟩ (some ⟨[],some [],[]⟩) true .e)) .e)) Tryz.func4
end Go.Proofs
namespace Go.Proofs
open Go.Eng Go.Eng.Pure
set_option linter.unusedVariables false
theorem el67:Elem Tryz.prog 67 5 1:=zEu kr
theorem lay5:lay Tryz.prog 5=some (false,1):=by kernel_rfl
instance:Lay Tryz.prog 5 (false,1):=⟨lay5⟩
theorem zA7 {k:World} {l:Hp} (hw:Holds k l) (hG:Tryz.Gl k) (c:Str) {r:Str} (h:zAQ c=some r) :
  Cs Tryz.prog 25 [(str c)] k l r:=by
 refine CM 30 Tryz.func25 hw fun S=>?_
 refine Ws<|Wg<|A<|We<|Ws<|Wg<|M<|W.bytes (s:=c) S rfl Tryz.underlying9 Tryz.underlying67 Tryz.underlying5 ?_
 intro o z w3 ap S
 refine A<|We<|Ws<|Ws<|Wg<|M<|Nv<|M<|We<|B h fun p aj h=>WP.cut (fun f w=>∃ (af:Hp),f 3=(.slice (some ⟨o,0,none⟩) c.length z)∧p.length=c.length∧St k l w af [.box o 5 (p.map byt)]) ?_ ?_
 ·refine Wb ?_
  refine WP.loopM (zCf c) (fun s f w=>match s with | (aa,j)=>∃ (t:Hp),f 3=(.slice (some ⟨o,0,none⟩) c.length z)∧f 8=(.slice (some ⟨o,0,none⟩) c.length z)∧f 9=(int (c.length:Int))∧f 10=(int aa)∧j.length=c.length∧St k l w t [.box o 5 (j.map byt)]) (0,c) p aj ?_ ?_
  ·exact ⟨l,rfl,rfl,rfl,rfl,rfl,S⟩
  intro s f w hI aq b ak
  obtain ⟨aa,j⟩:=s
  obtain ⟨t,x,h6,h7,u,v,S⟩:=hI
  refine Ws<|Wg<|La' u h7<|We<|Ws ?_
  rcases condE b with ⟨ad,b⟩ | ⟨ad,b⟩
  ·refine CT ad<|Wk<|Ws<|Wb<|Ws<|Wg<|M' u<|B b fun c22 ah b=>?_
   have au:=(zCI ah).2
   refine WL.w (R.idxB h6 u el67 (by have:=(zCI ah).2; have hl:j.length=c.length:=v; omega))<|B b fun c24 al b=>?_
   refine WL.w (R.loadB (i:=0) S rfl rfl lay5 (zCI al).1)<|A<|A<|We<|Ws<|Wg<|M<|Md c24 65<|M ?_
   refine WL.grp 3 [18,19] 20 (boo ((decide (65≤c24))&&(decide (c24≤90)))) ?_ ?_
   ·rcases boolE (decide (65≤c24)) with d | d
    ·refine Gy d<|M<|Gy d<|Mb c24 90<|Pt d ?_
     exact We ⟨(andT d),ag,rfl⟩
    refine Gn d<|Gn d<|Pf d ?_
    exact We ⟨(andF d),ag,rfl⟩
   intro us
   refine We ?_
   rcases condE b with ⟨ae,b⟩ | ⟨ae,b⟩
   ·refine CT ae<|Wg<|M' x<|M<|M<|Mg c24 97<|Mh (c24+97) 65<|B b fun c28 ai b=>?_
    have av:=(zCI ai).2
    refine WL.w (R.idxB rfl rfl el67 (by have:=(zCI ai).2; have hl:j.length=c.length:=v; omega)) ?_
    refine W.store (i:=0) ((j.set aa.toNat ((c24+97) - 65)).map byt) S rfl rfl rfl lay5 rfl rfl (by rw [List.length_map]; omega) (zN6 _ _ _ (by omega)) ?_
    intro aw S
    refine We<|Wg<|Lg' u rfl<|M<|We ?_
    obtain rfl:=oi b
    exact ⟨rfl,⟨t,x,h6,h7,rfl,(List.length_set.trans v),S⟩⟩
   refine CF ae<|Wk<|Wg<|Lg' u rfl<|M<|We ?_
   obtain rfl:=oi b
   exact ⟨rfl,⟨t,x,h6,h7,rfl,v,S⟩⟩
  refine CF ad<|Wx ?_
  obtain rfl:=oi b
  obtain rfl:=ak
  exact ⟨t,x,v,S⟩
 rintro f w ⟨af,am,an,S⟩
 refine Ws<|Wg<|M' am ?_
 refine WL.w (R.strB (i:=0) (s:=p) S (by rw [show p.length=c.length from an]; exact rfl) rfl Tryz.underlying67 Tryz.underlying9 Tryz.underlying5)<|A<|We ?_
 exact WP.ret (Rs h S)
end Go.Proofs
namespace Go.Proofs
open Go Go.Eng Go.VI Go.Eng.Pure
set_option linter.unusedVariables false
set_option maxRecDepth 10000
set_option maxHeartbeats 4000000
theorem c25:FE.ok (U:=UU) Tryz.prog ⟨25,[.str],[.str],fun x=>zAQ x⟩:=@fun w H az x y hw hg b hT h=>by
 obtain ⟨c,rfl,d⟩:=hT
 obtain rfl:c=_:=d
 exact (zA7 hw b x h).mono (fun _ _ e=>⟨[_],e,_,rfl,rfl⟩)
end Go.Proofs
namespace Go.Proofs
open Go.Eng Go.Eng.Pure
set_option linter.unusedVariables false
theorem zOi:zer Tryz.prog 153=some [(boo false),(boo false),(boo false),(boo false),(boo false),(boo false),(boo false),(int 0),(int 0),(int 0),(int 0)]:=by kernel_rfl
end Go.Proofs
namespace Go.Proofs
open Go Go.Eng Go.VI Go.Eng.Pure
set_option linter.unusedVariables false
set_option maxRecDepth 10000
set_option maxHeartbeats 4000000
theorem c293:FE.ok (U:=UU) Tryz.prog ⟨293,[.str,.byt],[.str],fun x=>zCK x.1 x.2⟩:=mk anil (.n .e (.n (.lp ⟨[⟨.sl 0,.str,none⟩],some [],[]⟩ (some ⟨[⟨.sl 0,.str,none⟩],some [],[]⟩) false .e) .e)) Tryz.func293
theorem zFD {b:World} {f:Hp} (hw:Holds b f) (hG:Tryz.Gl b) (c:Str) (d:UInt8) {r:Str} (h:zCK c d=some r) :
  Cs Tryz.prog 293 [(str c),(byt d)] b f r:=by
 refine (c293 (xs:=(c,d)) (y:=r) hw (fun _ _ e=>by cases e) hG ⟨_,_,rfl,rfl,⟨_,rfl,rfl⟩⟩ h).mono ?_
 rintro _ v ⟨_,rfl,D⟩
 obtain ⟨i,rfl,j⟩:=D
 obtain rfl:i=_:=j
 exact rfl
theorem c292:FE.ok (U:=UU) Tryz.prog ⟨292,[.str,.byt],[.str],fun x=>zBj x.1 x.2⟩:=mk anil (.n .e (.n (.lp ⟨[⟨.sl 0,.str,none⟩],some [],[]⟩ (some ⟨[⟨.sl 0,.str,none⟩],some [],[]⟩) false .e) .e)) Tryz.func292
theorem zC8 {b:World} {f:Hp} (hw:Holds b f) (hG:Tryz.Gl b) (c:Str) (d:UInt8) {r:Str} (h:zBj c d=some r) :
  Cs Tryz.prog 292 [(str c),(byt d)] b f r:=by
 refine (c292 (xs:=(c,d)) (y:=r) hw (fun _ _ e=>by cases e) hG ⟨_,_,rfl,rfl,⟨_,rfl,rfl⟩⟩ h).mono ?_
 rintro _ v ⟨_,rfl,D⟩
 obtain ⟨i,rfl,j⟩:=D
 obtain rfl:i=_:=j
 exact rfl
end Go.Proofs
namespace Go.Proofs
open Go.Eng Go.Eng.Pure
set_option linter.unusedVariables false
theorem zC5 {c:World} {d:Hp} (hw:Holds c d) (b:Str) {r:Unit} (h:strings_makeASCIISet b=some r) :
  Con Tryz.prog 254 [(str b)] c d (fun H' v=>v=(.tuple ⟨[(.agg (Lib.setCells b)),(boo true)]⟩)) :=
 zQV Tryz.func254 rfl kr hw h (Tryz.strings_makeASCIISet (fun w=>(Tryz.zeroValue353 w).trans kr))
theorem zRH:zer Tryz.prog 353=some (List.replicate 256 (boo false)):=by kernel_rfl
theorem zO1:lay Tryz.prog 353=some (true,256):=by kernel_rfl
instance:Lay Tryz.prog 353 (true,256):=⟨zO1⟩
theorem zCA {d:World} {c:Hp} (hw:Holds d c) (f:Str) (i:UInt8) {b:Nat} (hA:At c ⟨b,0,none⟩ (setc f)) {r:Bool} (h:zAX f i=some r) :
  Cb Tryz.prog 255 [(ptr b 0),(byt i)] d c r :=
 zQe Tryz.func255 rfl kr hw hA h Tryz.asciiSet_contains
theorem zEz {j:World} {d:Hp} (hw:Holds j d) (hG:Tryz.Gl j) (o:Str) (k:Str) {bp_as:Nat} (i:At d ⟨bp_as,0,none⟩ (setc k)) {r:Str} (h:zBQ o k=some r) :
  Cs Tryz.prog 295 [(str o),(ptr bp_as 0)] j d r:=by
 refine CM 22 Tryz.func295 hw fun S=>?_
 refine Ws<|Wg<|A<|We<|Ws<|B h fun u ac h=>WP.cut (fun f w=>∃ (v:Hp),f 0=(str u)∧St j d w v []) ?_ ?_
 ·refine Wb ?_
  refine WP.loopM (zA4 k) (fun s f w=>match s with | x=>∃ (l:Hp),f 0=(str x)∧f 1=(ptr bp_as 0)∧At l ⟨bp_as,0,none⟩ (setc k)∧St j d w l []) o u ac ?_ ?_
  ·exact ⟨d,rfl,rfl,i,S⟩
  intro x f w hI y8 b z
  obtain ⟨l,c,h4,i,S⟩:=hI
  refine Ws<|Ws<|Wg<|M' c<|Ns<|Lc<|We ?_
  rcases condE b with ⟨p,b⟩ | ⟨p,b⟩
  ·refine CT p<|Wk<|Wb<|Ws<|Ws<|Wg<|M' h4<|M' c<|M' c<|Ns<|Lh<|B b fun ad ae b=>Ja ae<|B b fun al af b=>W.call S rfl (zCA S.holds k ad i af) ?_
   rintro am an ab ah S rfl
   have i:=At.mono i ah (by intro h; have:=congrArg List.length h; rw [zEe] at this; cases this)
   refine No<|We ?_
   rcases condE b with ⟨t,b⟩ | ⟨t,b⟩
   ·refine CT t<|Wx ?_
    obtain rfl:=oi b
    obtain rfl:=z
    exact ⟨ab,c,S⟩
   refine CF t<|Wk<|Wg<|M' c<|M' c<|Ns<|Lh<|B b fun ao ai b=>Jd ai<|A<|We ?_
   obtain rfl:=oi b
   exact ⟨rfl,⟨ab,rfl,h4,i,S⟩⟩
  refine CF p<|Wx ?_
  obtain rfl:=oi b
  obtain rfl:=z
  exact ⟨l,c,S⟩
 rintro f w ⟨v,h7,S⟩
 refine Ws<|Wg<|M' h7<|A<|We ?_
 exact WP.ret (Rs h S)
theorem zCs {i:World} {c:Hp} (hw:Holds i c) (hG:Tryz.Gl i) (o:Str) (j:Str) {bp_as:Nat} (d:At c ⟨bp_as,0,none⟩ (setc j)) {r:Str} (h:zA8 o j=some r) :
  Cs Tryz.prog 294 [(str o),(ptr bp_as 0)] i c r:=by
 refine CM 16 Tryz.func294 hw fun S=>?_
 refine Ws<|Wg<|A<|We<|Ws<|B h fun u ac h=>WP.cut (fun f w=>∃ (v:Hp),f 0=(str u)∧St i c w v []) ?_ ?_
 ·refine Wb ?_
  refine WP.loopM (zBA j) (fun s f w=>match s with | x=>∃ (l:Hp),f 0=(str x)∧f 1=(ptr bp_as 0)∧At l ⟨bp_as,0,none⟩ (setc j)∧St i c w l []) o u ac ?_ ?_
  ·exact ⟨c,rfl,rfl,d,S⟩
  intro x f w hI y8 b z
  obtain ⟨l,k,h4,d,S⟩:=hI
  refine Ws<|Ws<|Wg<|M' k<|Ns<|Lc<|We ?_
  rcases condE b with ⟨p,b⟩ | ⟨p,b⟩
  ·refine CT p<|Wk<|Wb<|Ws<|Ws<|Wg<|M' h4<|M' k<|B b fun ad ae b=>Ja ae<|B b fun al af b=>W.call S rfl (zCA S.holds j ad d af) ?_
   rintro am an ab ah S rfl
   have d:=At.mono d ah (by intro h; have:=congrArg List.length h; rw [zEe] at this; cases this)
   refine No<|We ?_
   rcases condE b with ⟨t,b⟩ | ⟨t,b⟩
   ·refine CT t<|Wx ?_
    obtain rfl:=oi b
    obtain rfl:=z
    exact ⟨ab,k,S⟩
   refine CF t<|Wk<|Wg<|M' k<|B b fun ao ai b=>Jc ai<|A<|We ?_
   obtain rfl:=oi b
   exact ⟨rfl,⟨ab,rfl,h4,d,S⟩⟩
  refine CF p<|Wx ?_
  obtain rfl:=oi b
  obtain rfl:=z
  exact ⟨l,k,S⟩
 rintro f w ⟨v,h7,S⟩
 refine Ws<|Wg<|M' h7<|A<|We ?_
 exact WP.ret (Rs h S)
theorem zIv {l:World} {p:Hp} (hw:Holds l p) (hG:Tryz.Gl l) (k:Str) (c:Str) {r:Str} (h:zEo k c=some r) :
  Cs Tryz.prog 250 [(str k),(str c)] l p r:=by
 refine CM 43 Tryz.func250 hw fun S=>?_
 refine Ws<|Wg<|A<|We<|Ws<|Ws<|Wg<|M<|Na<|M ?_
 refine WL.grp 3 [10,11] 12 (boo ((k==[])||(c==[]))) ?_ ?_
 ·rcases boolE (k==[]) with f | f
  ·refine Gn f<|Gn f<|Pt f ?_
   exact We ⟨(orT f),ag,rfl⟩
  refine Gy f<|M<|Gy f<|Na<|Pf f ?_
  exact We ⟨(orF f),ag,rfl⟩
 intro us
 refine We ?_
 rcases condE h with ⟨t,h⟩ | ⟨t,h⟩
 ·refine CT t<|Ws<|Wg<|M<|A<|We ?_
  exact WP.ret (Rs h S)
 refine CF t<|Wk<|Ws<|Ws<|Wg<|M<|Ns<|Le<|M<|B h fun b7 j h=>WL.grp 4 [18,19,20] 21 (boo b7) ?_ ?_
 ·rcases boolE ((c.length:Int)==1) with d | d
  ·replace j:=condT j d
   refine Gy d<|M<|Gy d<|B j fun c6 ab j=>Ja ab<|Gy d<|Ma c6 128<|Pt d ?_
   exact We ⟨(ob j),ag,rfl⟩
  replace j:=condF j d
  refine Gn d<|Gn d<|Gn d<|Pf d ?_
  exact We ⟨(ob j),ag,rfl⟩
 intro us
 refine We ?_
 rcases condE h with ⟨u,h⟩ | ⟨u,h⟩
 ·refine CT u<|Ws<|WP.quiet S kr kr<|QM<|QM<|B h fun c12 ac h=>QJa ac<|B h fun x ad h=>WQ.call (v:=str x) rfl (fun w H' hq S=>zFD S.holds (hG.post S.post) k c12 ad)<|QM<|B h fun c18 ae h=>QJa ae<|B h fun af ah h=>WQ.call (v:=str af) rfl (fun w H' hq S=>zC8 S.holds (hG.post S.post) x c18 ah)<|QA<|WQ.nil ?_
  intro w9 aq au S
  exact WP.ret (Rs h S)
 refine CF u<|Wk<|Ws<|Ws<|Wg<|M<|B h fun av ai h=>W.call S rfl (zC5 S.holds c ai) ?_
 rintro aw ax ay az S rfl
 refine M ?_
 refine Ex ?_
 refine Ex ?_
 refine W.alloc (List.replicate 256 (boo false)) S zRH ?_
 intro aj a0 S
 refine W.store (i:=0) (setc c) S rfl rfl rfl zO1 (show (Lib.setCells c).size=256 by have:=zEe c; simpa [setc] using this) (zM9 c) (Nat.le_of_eq (by rw [List.length_replicate])) (zKM ((zEe c).trans (by rw [List.length_replicate]))) ?_
 intro a1 S
 obtain ⟨z,a2,ak,_,S⟩:=S.settle (i:=0) rfl
 replace S:St l p _ z []:=S
 have o:At z ⟨aj,0,none⟩ (setc c):=⟨_,_,rfl,ak,[],by simp⟩
 refine A<|We<|Ws<|Wg<|M<|We<|WP.condT (b:=true) rfl rfl<|Ws<|Wg<|M<|B h fun al am h=>W.call S rfl (zEz S.holds (hG.post S.post) k c o am) ?_
 rintro a3 a4 a5 an S rfl
 have o:=At.mono o an (by intro h; have:=congrArg List.length h; rw [zEe] at this; cases this)
 refine B h fun a6 ao h=>W.call S rfl (zCs S.holds (hG.post S.post) al c o ao) ?_
 rintro a7 a8 a9 ba S rfl
 refine A<|We ?_
 exact WP.ret (Rs h S)
end Go.Proofs
namespace Go.Proofs
open Go Go.Eng Go.VI Go.Eng.Pure
set_option linter.unusedVariables false
set_option maxRecDepth 10000
set_option maxHeartbeats 4000000
theorem c250:FE.ok (U:=UU) Tryz.prog ⟨250,[.str,.str],[.str],fun x=>zEo x.1 x.2⟩:=@fun w H az x y hw hg b hT h=>by
 obtain ⟨c,_,rfl,d,⟨f,rfl,i⟩⟩:=hT
 obtain rfl:c=_:=d
 obtain rfl:f=_:=i
 exact (zIv hw b x.1 x.2 h).mono (fun _ _ e=>⟨[_],e,_,rfl,rfl⟩)
theorem c174:FE.ok (U:=UU) Tryz.prog ⟨174,[.str],[.str],fun x=>zB6 x⟩:=mk (fcons c250 anil) (.e) Tryz.func174
theorem c173:FE.ok (U:=UU) Tryz.prog ⟨173,[.int,.byt],[.int],fun x=>zHW x.1 x.2⟩:=mk anil (.e) Tryz.func173
theorem c104:FE.ok (U:=UU) Tryz.prog ⟨104,[.str],[(.sl .str)],fun x=>zGX x⟩:=mk (fcons c174 (fcons c173 anil)) (.n .e (.n .e (.n .e (.n (.n .e (.lp ⟨[⟨.sl 3,(.sl .str),some 9⟩,⟨.sl 4,.int,none⟩,⟨.sl 5,.int,none⟩,⟨.sl 6,.int,none⟩],some [],[]⟩ (some ⟨[⟨.sl 3,(.sl .str),some 9⟩],some [],[]⟩) false .e)) .e)))) Tryz.func104
end Go.Proofs
namespace Go.Proofs
open Go.Eng Go.Eng.Pure
set_option linter.unusedVariables false
theorem zRi:fld Tryz.prog 41 0=some 0:=by kernel_rfl
instance:Fld Tryz.prog 41 0 0:=⟨zRi⟩
theorem zGo {i:World} {j:Hp} (hw:Holds i j) (hG:Tryz.Gl i) (c:GField) (f:Str) {k:Addr} (l:At j k [(str f)]) {r:Bool} (h:zCR c f=some r) :
  Cb Tryz.prog 219 [(agg [(str c.fName),(str c.fValue)]),(.pointer (some k))] i j r:=by
 refine CM 17 Tryz.func219 hw fun S=>?_
 refine Ws<|Wg ?_
 refine W.box [(str c.fName),(str c.fValue)] S rfl rfl ?_
 intro u x S
 refine A<|We<|Ws<|WP.quiet S kr kr<|QFb ?_
 refine QB 0 (str c.fName)<|QNs ?_
 refine QH (str f) l<|QNs<|QLe<|QM<|B h fun o d h=>WQ.grp 6 [11,12,13,14,15] 16 (boo o) ?_ ?_
 ·rcases boolE ((c.fName.length:Int)==(f.length:Int)) with b | b
  ·replace d:=condT d b
   refine QGy b<|QFb<|QGy b ?_
   refine QB 0 (str c.fName)<|QGy b<|B d fun p t d=>WQ.call (v:=str p) rfl (fun w H' hq S=>zA7 S.holds (hG.post S.post) c.fName t)<|QGy b ?_
   refine QH (str f) l<|QGy b<|QNa<|QPt b ?_
   exact WQ.nil ⟨(ob d),ag⟩
  replace d:=condF d b
  refine QGn b<|QGn b<|QGn b<|QGn b<|QGn b<|QPf b ?_
  exact WQ.nil ⟨(ob d),ag⟩
 intro us
 refine QA<|WQ.nil ?_
 intro z H4 ab S
 exact WP.ret (Rb h S)
theorem zDC {d:World} {j:Hp} (hw:Holds d j) (hG:Tryz.Gl d) (f:Str) {r:(GField→Option Bool)} (h:zBp f=some r) :
  Con Tryz.prog 149 [(str f)] d j (fun H' v=>∃ (k:FuncId) (c:List Value),v=.func (.func k) #[] c.toArray∧∀ {w:World} {H:Hp},H'.le H→Holds w H→Tryz.Gl w→∀ (b:GField) (rr:Bool),r b=some rr→Con Tryz.prog k ([(agg [(str b.fName),(str b.fValue)])]++c) w H (fun H' v=>v=(boo rr))):=by
 refine CM 6 Tryz.func149 hw fun S=>?_
 refine Ws<|Wg ?_
 refine W.box [(str f)] S rfl rfl ?_
 intro l z S
 refine A<|We<|Ws<|Wg ?_
 refine Lo 0 S<|B h fun o t h=>W.call S rfl (zA7 S.holds (hG.post S.post) f t) ?_
 rintro v4 w5 H6 ad S rfl
 refine W.store (i:=0) [(str o)] S rfl rfl rfl lay9 rfl rfl (Nat.le_of_ble_eq_true kr) rfl ?_
 intro w8 S
 refine We<|Ws<|Wg ?_
 obtain ⟨p,af,u,_,S⟩:=S.settle (i:=0) rfl
 replace S:St d j _ p []:=S
 have x:At p ⟨l,0,none⟩ [(str o)]:=⟨_,_,rfl,u,[],by simp⟩
 refine WL.w (R.mkFunc (vs:=[(.pointer (some ⟨l,0,none⟩))]) rfl)<|A<|We ?_
 obtain rfl:=oi h
 refine WP.ret (Out.one rfl S rfl ?_)
 exact ⟨_,[(.pointer (some ⟨l,0,none⟩))],rfl,fun hle hw hG b r h=>zGo hw hG b o (At.mono x hle (by simp)) h⟩
theorem el26:Elem Tryz.prog 26 41 2:=zEu kr
theorem lay41:lay Tryz.prog 41=some (true,2):=by kernel_rfl
instance:Lay Tryz.prog 41 (true,2):=⟨lay41⟩
theorem zer41:zer Tryz.prog 41=some [(str []),(str [])]:=by kernel_rfl
theorem zCo {o:World} {k:Hp} (hw:Holds o k) (hG:Tryz.Gl o) (p:(List GField)) (aa:(GField→Option Bool)) {u:Value} {kp_keep:FuncId} {cp_keep:List Value} (c:Sl k u p) (Fp_keep:∀ {w:World} {H:Hp},k.le H→Holds w H→Tryz.Gl w→∀ (x0:GField) (rr:Bool),aa x0=some rr→Con Tryz.prog kp_keep ([(agg [(str x0.fName),(str x0.fValue)])]++cp_keep) w H (fun H' v=>v=(boo rr))) {r:(List GField)} (h:zBU p aa=some r) :
  Con Tryz.prog 148 [u,(.func (.func kp_keep) #[] cp_keep.toArray)] o k (fun H' v=>Sl H' v r):=by
 refine CM 23 Tryz.func148 hw fun S=>?_
 refine Ws<|Wg<|A<|We<|Ws<|Wg<|A<|We<|Ws<|Ws<|Wg<|M ?_
 refine Nq c<|M<|We ?_
 have S:=S.addNil 41 2
 refine B h fun ac an h=>WP.cut (fun f w=>∃ (ad:Hp) (x:Value),f 5=x∧Sl ad x ac∧St o k w ad [.row x 41 2 ac.length]) ?_ ?_
 ·refine Wb ?_
  refine WP.loopM (zBN p aa) (fun s f w=>match s with | (ae,am)=>∃ (t:Hp) (l:Value),f 1=(.func (.func kp_keep) #[] cp_keep.toArray)∧f 5=l∧f 8=u∧f 9=(int (p.length:Int))∧f 10=(int am)∧Sl t l ae∧Sl t u p∧St o k w t [.row l 41 2 ae.length]) (([]:List GField),0) ac an ?_ ?_
  ·exact ⟨k,.slice none 0 0,rfl,rfl,rfl,rfl,rfl,Sl.nil,c,S⟩
  intro s f w hI a6 b ao
  obtain ⟨ae,am⟩:=s
  obtain ⟨t,l,h2,h6,h7,h8,z,j,c,S⟩:=hI
  refine Ws<|Wg<|La' z h8<|We<|Ws ?_
  rcases condE b with ⟨ak,b⟩ | ⟨ak,b⟩
  ·refine CT ak<|Wk<|Ws<|Wb<|Ws<|Wg<|B b fun d ap b=>W.idx (α:=GField) c h7 z el26 ap ?_
   rintro a7 _ aq rfl
   refine WL.w (R.loadHN (vs:=[(str d.fName),(str d.fValue)]) S rfl aq lay41 rfl rfl) ?_
   refine W.alloc [(str []),(str [])] S zer41 ?_
   intro a8 a9 S
   refine W.store (i:=0) [(str d.fName),(str d.fValue)] S rfl rfl rfl lay41 rfl rfl (Nat.le_of_ble_eq_true kr) rfl ?_
   intro ba S
   refine We<|Ws<|Wg<|M' h2 ?_
   refine WL.w (R.loadBN (i:=0) (vs:=[(str d.fName),(str d.fValue)]) S rfl rfl lay41 rfl rfl)<|B b fun bb au b=>W.callv S rfl rfl (Fp_keep (S.post.le) S.holds (hG.post S.post) d _ au) ?_
   rintro bc bd av aw S rfl
   have ⟨j,c⟩:=U2 aw j c
   refine We ?_
   rcases condE b with ⟨al,b⟩ | ⟨al,b⟩
   ·refine CT al<|Wg<|M' h6 ?_
    refine WL.w (R.loadBN (i:=0) (vs:=[(str d.fName),(str d.fValue)]) S rfl rfl lay41 rfl rfl)<|W.bslice (α:=GField) [(agg [(str d.fName),(str d.fValue)])] ([d]:List GField) S el26 rfl rfl rfl (by decide) (Go.Eng.encS ⟨rfl,rfl⟩ enc0) ?_
    intro be bf bg ax ay S
    have ⟨j,c⟩:=U2 ax j c
    refine B b fun bh az b=>W.app (α:=GField) (i:=2) S el26 rfl rfl rfl j ay az ?_
    intro a0 bi a1 a2 a3 S
    have ⟨j,c⟩:=U2 a2 j c
    refine A<|We<|Wg<|Lg' z rfl<|M<|We ?_
    obtain rfl:=oi b
    exact ⟨rfl,⟨a1,a0,h2,rfl,h7,h8,rfl,a3,c,(S.pk [2])⟩⟩
   refine CF al<|Wk<|Wg<|Lg' z rfl<|M<|We ?_
   obtain rfl:=oi b
   exact ⟨rfl,⟨av,l,h2,h6,h7,h8,rfl,j,c,(S.pk [1])⟩⟩
  refine CF ak<|Wx ?_
  obtain rfl:=oi b
  obtain rfl:=ao
  exact ⟨t,l,h6,j,S⟩
 rintro f w ⟨ad,x,a4,a5,S⟩
 refine Ws<|Wg<|M' a4<|A<|We ?_
 exact WP.ret (Rl h S a5)
theorem zRo:fld Tryz.prog 41 1=some 1:=by kernel_rfl
instance:Fld Tryz.prog 41 1 1:=⟨zRo⟩
theorem zId {k:World} {l:Hp} (hw:Holds k l) (hG:Tryz.Gl k) (u:(List GField)) (x:Str) {ah:Value} (z:Sl l ah u) {r:(List Str)} (h:zBx u x=some r) :
  Con Tryz.prog 103 [ah,(str x)] k l (fun H' v=>Sl H' v r):=by
 refine CM 24 Tryz.func103 hw fun S=>?_
 refine Ws<|Wg<|A<|We<|Ws<|Wg<|A<|We<|Ws<|Ws<|Wg<|M ?_
 refine M<|B h fun r1 ao h=>W.call S rfl (zDC S.holds (hG.post S.post) x ao) ?_
 rintro v2 w3 H4 ap S ⟨kr1,cr1,rfl,Fr1⟩
 have z:=z.up ap
 refine B h fun r6 aq h=>W.call S rfl (zCo S.holds (hG.post S.post) u r1 z (fun hle=>Fr1 (Hp.le.trans lr hle)) aq) ?_
 rintro v7 w8 H9 bc S b
 refine Nq b<|M<|We ?_
 have S:=S.addNil 9 1
 refine B h fun ab av h=>WP.cut (fun f w=>∃ (ac:Hp) (t:Value),f 5=t∧Sl ac t ab∧St k l w ac [.row t 9 1 ab.length]) ?_ ?_
 ·refine Wb ?_
  refine WP.loopM (zB0 r6) (fun s f w=>match s with | (ad,aj)=>∃ (o:Hp) (p:Value),f 5=p∧f 11=v7∧f 12=(int (r6.length:Int))∧f 13=(int aj)∧Sl o p ad∧Sl o v7 r6∧St k l w o [.row p 9 1 ad.length]) (([]:List Str),0) ab av ?_ ?_
  ·exact ⟨H9,.slice none 0 0,rfl,rfl,rfl,rfl,Sl.nil,b,S⟩
  intro s f w hI bd c aw
  obtain ⟨ad,aj⟩:=s
  obtain ⟨o,p,ak,al,am,ae,d,b,S⟩:=hI
  refine Ws<|Wg<|La' ae am<|We<|Ws ?_
  rcases condE c with ⟨af,c⟩ | ⟨af,c⟩
  ·refine CT af<|Wk<|Ws<|Wb<|Ws<|Wg<|B c fun j ax c=>W.idx (α:=GField) b al ae el26 ax ?_
   rintro be _ ay rfl
   refine WL.w (R.loadHN (vs:=[(str j.fName),(str j.fValue)]) S rfl ay lay41 rfl rfl) ?_
   refine W.alloc [(str []),(str [])] S zer41 ?_
   intro bf bg S
   refine W.store (i:=0) [(str j.fName),(str j.fValue)] S rfl rfl rfl lay41 rfl rfl (Nat.le_of_ble_eq_true kr) rfl ?_
   intro bh S
   refine We<|Wg<|M' ak<|Fb ?_
   refine Lo 0 S<|W.bslice (α:=Str) [(str j.fValue)] ([j.fValue]:List Str) S el36 rfl rfl rfl (by decide) (Go.Eng.encS ⟨rfl,rfl⟩ enc0) ?_
   intro bi bj bn az a0 S
   have ⟨d,b⟩:=U2 az d b
   refine B c fun bo a1 c=>W.app (α:=Str) (i:=2) S el36 rfl rfl rfl d a0 a1 ?_
   intro a2 bp a3 a4 a5 S
   have ⟨d,b⟩:=U2 a4 d b
   refine A<|We<|Wg<|Lg' ae rfl<|M<|We ?_
   obtain rfl:=oi c
   exact ⟨rfl,⟨a3,a2,rfl,al,am,rfl,a5,b,(S.pk [2])⟩⟩
  refine CF af<|Wx ?_
  obtain rfl:=oi c
  obtain rfl:=aw
  exact ⟨o,p,ak,d,S⟩
 rintro f w ⟨ac,t,a6,a7,S⟩
 refine Ws<|Wg<|M' a6<|A<|We ?_
 exact WP.ret (Rl h S a7)
end Go.Proofs
namespace Go.Proofs
open Go Go.Eng Go.VI Go.Eng.Pure
set_option linter.unusedVariables false
set_option maxRecDepth 10000
set_option maxHeartbeats 4000000
theorem c103:FE.ok (U:=UU) Tryz.prog ⟨103,[(.sl (.st 41)),.str],[(.sl .str)],fun x=>zBx x.1 x.2⟩:=@fun w H az x y hw hg b hT h=>by
 obtain ⟨i,_,rfl,c,⟨d,rfl,f⟩⟩:=hT
 obtain rfl:d=_:=f
 exact (zId hw b x.1 x.2 c h).mono (fun _ v K0=>⟨[v],rfl,v,rfl,K0⟩)
theorem c55:FE.ok (U:=UU) Tryz.prog ⟨55,[(.sl (.st 41)),.str],[(.sl .str)],fun x=>zB8 x.1 x.2⟩:=mk (fcons c104 (fcons c103 anil)) (.n .e (.n .e (.n (.n .e (.lp ⟨[⟨.sl 5,(.sl .str),some 9⟩,⟨.sl 12,.int,none⟩],some [],[]⟩ (some ⟨[⟨.sl 5,(.sl .str),some 9⟩],some [],[]⟩) false .e)) .e))) Tryz.func55
theorem zHG {b:World} {c:Hp} (hw:Holds b c) (hG:Tryz.Gl b) (d:(List GField)) (f:Str) {i:Value} (j:Sl c i d) {r:(List Str)} (h:zB8 d f=some r) :
  Con Tryz.prog 55 [i,(str f)] b c (fun H' v=>Sl H' v r):=by
 refine (c55 (xs:=(d,f)) (y:=r) hw (fun _ _ e=>by cases e) hG ⟨_,_,rfl,j,⟨_,rfl,rfl⟩⟩ h).mono ?_
 rintro _ v ⟨_,rfl,D⟩
 obtain ⟨k,rfl,K0⟩:=D
 exact K0
theorem c200:FE.ok (U:=UU) Tryz.prog ⟨200,[.str],[.boo],fun x=>zCS x⟩:=mk anil (.n .e (.n (.n .e (.lp ⟨[⟨.sl 6,.int,none⟩],some [],[]⟩ (some ⟨[],some [],[]⟩) true .e)) .e)) Tryz.func200
theorem c216:FE.ok (U:=UU) Tryz.prog ⟨216,[.str],[.str,.boo],fun x=>zBu x⟩:=mk (fcons c200 anil) (.n .e (.n .e (.n .e (.n .e (.n (.n .e (.lp ⟨[⟨.sl 5,(.sl .byt),some 5⟩,⟨.sl 6,.int,none⟩],some [],[]⟩ (some ⟨[⟨.sl 5,(.sl .byt),some 5⟩],some [],[]⟩) true (.n .e (.n (.n (.n (.n .e (.j ⟨[⟨.sl 6,.int,none⟩],some [.sl 5],[]⟩ true .e)) .e) .e) .e)))) .e))))) Tryz.func216
theorem c143:FE.ok (U:=UU) Tryz.prog ⟨143,[.str],[.str,(.st 239)],fun x=>zDa x⟩:=mk (fcons c216 (fcons c25 (fcons c24 anil))) (.n .e (.n .e (.n (.lp ⟨[⟨.sl 4,.int,none⟩],some [],[]⟩ (some ⟨[⟨.sl 4,.int,none⟩],some [],[]⟩) false .e) .e))) Tryz.func143
theorem zGl {b:World} {d:Hp} (hw:Holds b d) (hG:Tryz.Gl b) (c:Str) {r:(Str×Gcachecontrol_directive)} (h:zDa c=some r) :
  Con Tryz.prog 143 [(str c)] b d (fun H' v=>v=(.tuple ⟨[(str r.1),(agg [(int r.2.fform),(str r.2.fvalue)])]⟩)):=by
 refine (c143 (xs:=(c)) (y:=r) hw (fun _ _ e=>by cases e) hG ⟨_,rfl,rfl⟩ h).mono ?_
 rintro _ v ⟨_,rfl,D⟩
 obtain ⟨f,_,rfl,i,⟨j,rfl,K1⟩⟩:=D
 obtain rfl:f=_:=i
 obtain ⟨_,rfl,rfl⟩:=K1
 exact rfl
end Go.Proofs
namespace Go.Proofs
open Go.Eng Go.Eng.Pure
set_option linter.unusedVariables false
theorem zFN:zer Tryz.prog 239=some [(int 0),(str [])]:=by kernel_rfl
theorem zDD:lay Tryz.prog 239=some (true,2):=by kernel_rfl
instance:Lay Tryz.prog 239 (true,2):=⟨zDD⟩
theorem mz239:((Tryz.prog.info? 239).bind (·.zero))=some (agg [(int 0),(str [])]):=by kernel_rfl
theorem bp153:zGJ Tryz.prog 153=some [(0,1),(1,1),(2,1),(3,1),(4,1),(5,1),(6,1),(7,1),(8,1),(9,1),(10,1)]:=by kernel_rfl
theorem zLi:lay Tryz.prog 153=some (true,11):=by kernel_rfl
instance:Lay Tryz.prog 153 (true,11):=⟨zLi⟩
theorem zQC:fld Tryz.prog 153 7=some 7:=by kernel_rfl
instance:Fld Tryz.prog 153 7 7:=⟨zQC⟩
theorem bp244:zGJ Tryz.prog 244=some [(0,1),(1,1),(2,1),(3,1)]:=by kernel_rfl
theorem zIT:zer Tryz.prog 244=some [(str []),(.pointer none),(int 0),(int 0)]:=by kernel_rfl
theorem zQc:fld Tryz.prog 153 8=some 8:=by kernel_rfl
instance:Fld Tryz.prog 153 8 8:=⟨zQc⟩
theorem zQd:fld Tryz.prog 153 9=some 9:=by kernel_rfl
instance:Fld Tryz.prog 153 9 9:=⟨zQd⟩
theorem zPo:fld Tryz.prog 153 10=some 10:=by kernel_rfl
instance:Fld Tryz.prog 153 10 10:=⟨zPo⟩
theorem el245:Elem Tryz.prog 245 244 4:=zEu kr
theorem zHr:lay Tryz.prog 244=some (true,4):=by kernel_rfl
instance:Lay Tryz.prog 244 (true,4):=⟨zHr⟩
theorem zQw:fld Tryz.prog 244 0=some 0:=by kernel_rfl
instance:Fld Tryz.prog 244 0 0:=⟨zQw⟩
theorem zHc:fld Tryz.prog 244 1=some 1:=by kernel_rfl
instance:Fld Tryz.prog 244 1 1:=⟨zHc⟩
theorem zSb:lay Tryz.prog 243=some (false,1):=by kernel_rfl
instance:Lay Tryz.prog 243 (false,1):=⟨zSb⟩
theorem zHd:fld Tryz.prog 244 2=some 2:=by kernel_rfl
instance:Fld Tryz.prog 244 2 2:=⟨zHd⟩
theorem lay3:lay Tryz.prog 3=some (false,1):=by kernel_rfl
instance:Lay Tryz.prog 3 (false,1):=⟨lay3⟩
theorem zHs:fld Tryz.prog 244 3=some 3:=by kernel_rfl
instance:Fld Tryz.prog 244 3 3:=⟨zHs⟩
end Go.Proofs
namespace Go.Proofs
open Go Go.Eng Go.VI Go.Eng.Pure
set_option linter.unusedVariables false
set_option maxRecDepth 10000
set_option maxHeartbeats 4000000
theorem c144:FE.ok (U:=UU) Tryz.prog ⟨144,[(.st 239),.int,.int],[.int],fun x=>zAz x.1 x.2.1 x.2.2⟩:=mk (fcons c134 anil) (.e) Tryz.func144
theorem zBP {c:World} {i:Hp} (hw:Holds c i) (hG:Tryz.Gl c) (b:Gcachecontrol_directive) (d:Int) (f:Int) {r:Int} (h:zAz b d f=some r) :
  Ci Tryz.prog 144 [(agg [(int b.fform),(str b.fvalue)]),(int d),(int f)] c i r:=by
 refine (c144 (xs:=(b,d,f)) (y:=r) hw (fun _ _ e=>by cases e) hG ⟨_,_,rfl,⟨_,rfl,rfl⟩,⟨_,_,rfl,rfl,⟨_,rfl,rfl⟩⟩⟩ h).mono ?_
 rintro _ v ⟨_,rfl,D⟩
 obtain ⟨j,rfl,k⟩:=D
 obtain rfl:j=_:=k
 exact rfl
end Go.Proofs
namespace Go.Proofs
open Go.Eng Go.Eng.Pure
set_option linter.unusedVariables false
theorem zE3 {w0:World} {H0:Hp} (hw:Holds w0 H0) (hG:Tryz.Gl w0) (a1:(List GField)) {bq:Value} (b8:Sl H0 bq a1) {r:GControl} (h:zCG a1=some r) :
  Con Tryz.prog 78 [bq] w0 H0 (fun H' v=>v=(agg [(boo r.fNoStore),(boo r.fNoCache),(boo r.fMustRevalidate),(boo r.fProxyRevalidate),(boo r.fPrivate),(boo r.fPublic),(boo r.fOnlyIfCached),(int r.fMaxAge),(int r.fSMaxAge),(int r.fMinFresh),(int r.fMaxStale)])):=by
 refine CM 141 Tryz.func78 hw fun S=>?_
 refine Ws<|Wg ?_
 refine W.alloc [(boo false),(boo false),(boo false),(boo false),(boo false),(boo false),(boo false),(int 0),(int 0),(int 0),(int 0)] S zOi ?_
 intro p w2 S
 refine We<|Ws<|Wg<|M<|B h fun k ca h=>W.call S rfl (zHG S.holds (hG.post S.post) a1 [67,97,99,104,101,45,67,111,110,116,114,111,108] b8 ca) ?_
 rintro v4 w5 H6 ds S R8
 refine A<|We<|Ws<|Wg<|W.makeMap S ?_
 intro t dt S
 refine A<|We<|Ws<|Ws<|Wg<|M<|Nq R8<|M<|We<|B h fun l cc h=>WP.cut (fun f w=>∃ (a2:Hp),f 2=(ptr p 0)∧f 3=v4∧f 4=(mapv t)∧Sl a2 v4 k∧St w0 H0 w a2 [.mp t (encm (fun x:Gcachecontrol_directive=>(agg [(int x.fform),(str x.fvalue)])) l),.box p 153 [(boo false),(boo false),(boo false),(boo false),(boo false),(boo false),(boo false),(int 0),(int 0),(int 0),(int 0)]]) ?_ ?_
 ·refine Wb ?_
  refine WP.loopM (zCv k) (fun s f w=>match s with | (br,au)=>∃ (av:Hp),f 2=(ptr p 0)∧f 3=v4∧f 4=(mapv t)∧f 33=v4∧f 34=(int (k.length:Int))∧f 35=(int br)∧Sl av v4 k∧St w0 H0 w av [.mp t (encm (fun x:Gcachecontrol_directive=>(agg [(int x.fform),(str x.fvalue)])) au),.box p 153 [(boo false),(boo false),(boo false),(boo false),(boo false),(boo false),(boo false),(int 0),(int 0),(int 0),(int 0)]]) (0,([]:List (Str×Gcachecontrol_directive))) l cc ?_ ?_
  ·exact ⟨H6,rfl,rfl,rfl,rfl,rfl,rfl,R8,S⟩
  intro s f w hI du o cd
  obtain ⟨br,au⟩:=s
  obtain ⟨av,a3,a4,aq,a5,a6,aw,R8,S⟩:=hI
  refine Ws<|Wg<|La' aw a6<|We<|Ws ?_
  rcases condE o with ⟨a7,o⟩ | ⟨a7,o⟩
  ·refine CT a7<|Wk<|Ws<|Wb<|Ws<|Wg<|B o fun ce cf o=>W.idx (α:=Str) R8 a5 aw el36 cf ?_
   rintro dw _ cg rfl
   refine Lq S cg<|A<|We<|Ws<|Wg<|M<|B o fun an ch o=>W.call S rfl (zGl S.holds (hG.post S.post) ce ch) ?_
   rintro dx dy bs ci S rfl
   have R8:=R8.up ci
   refine M ?_
   refine Ex ?_
   refine Ex ?_
   refine W.alloc [(int 0),(str [])] S zFN ?_
   intro dz d0 S
   refine A ?_
   refine W.store (i:=0) [(int an.2.fform),(str an.2.fvalue)] S rfl rfl rfl zDD rfl rfl (Nat.le_of_ble_eq_true kr) rfl ?_
   intro d1 S
   refine We<|Ws<|Wg<|M' aq<|M<|B o fun g42 cj o=>?_
   refine WL.w (v:=.tuple ⟨[(agg [(int g42.1.fform),(str g42.1.fvalue)]),(boo g42.2)]⟩) (R.ofEq (R.lookup (fun x:Gcachecontrol_directive=>(agg [(int x.fform),(str x.fvalue)])) (i:=1) (m:=au) (z:=(⟨0,[]⟩:Gcachecontrol_directive)) S rfl rfl rfl Tryz.underlying237 Tryz.underlying9 mz239 rfl) (by rw [oi cj]))<|M ?_
   refine Ex ?_
   refine Ex ?_
   refine W.alloc [(int 0),(str [])] S zFN ?_
   intro d2 d3 S
   refine W.store (i:=0) [(int g42.1.fform),(str g42.1.fvalue)] S rfl rfl rfl zDD rfl rfl (Nat.le_of_ble_eq_true kr) rfl ?_
   intro d4 S
   refine A<|We<|Ws<|Wg<|M<|No<|M ?_
   refine WL.grp 3 [53,54] 55 (boo ((!g42.2)&&(an.1 !=[]))) ?_ ?_
   ·rcases boolE (!g42.2) with ah | ah
    ·refine Gy ah<|M<|Gy ah<|Nb<|Pt ah ?_
     exact We ⟨(andT ah),ag,rfl⟩
    refine Gn ah<|Gn ah<|Pf ah ?_
    exact We ⟨(andF ah),ag,rfl⟩
   intro us
   refine We ?_
   rcases condE o with ⟨a8,o⟩ | ⟨a8,o⟩
   ·refine CT a8<|Wg<|M' aq<|M ?_
    refine WL.w (R.loadBN (i:=1) (vs:=[(int an.2.fform),(str an.2.fvalue)]) S rfl rfl zDD rfl rfl)<|W.mapUpdate (fun x:Gcachecontrol_directive=>(agg [(int x.fform),(str x.fvalue)])) (i:=2) (m:=au) an.2 S rfl rfl rfl rfl rfl Tryz.underlying237 Tryz.underlying9 ?_
    intro d5 S
    refine We<|Wg<|Lg' aw rfl<|M<|We ?_
    obtain rfl:=oi o
    exact ⟨rfl,⟨bs,a3,a4,aq,a5,a6,rfl,R8,(S.pk [2,3])⟩⟩
   refine CF a8<|Wk<|Wg<|Lg' aw rfl<|M<|We ?_
   obtain rfl:=oi o
   exact ⟨rfl,⟨bs,a3,a4,aq,a5,a6,rfl,R8,(S.pk [2,3])⟩⟩
  refine CF a7<|Wx ?_
  obtain rfl:=oi o
  obtain rfl:=cd
  exact ⟨av,a3,a4,aq,R8,S⟩
 rintro f w ⟨a2,bt,ck,ac,R8,S⟩
 refine Ws<|Wg<|M' ac<|B h fun g50 cl h=>?_
 refine WL.w (v:=.tuple ⟨[(agg [(int g50.1.fform),(str g50.1.fvalue)]),(boo g50.2)]⟩) (R.ofEq (R.lookup (fun x:Gcachecontrol_directive=>(agg [(int x.fform),(str x.fvalue)])) (i:=0) (m:=l) (z:=(⟨0,[]⟩:Gcachecontrol_directive)) S rfl rfl rfl Tryz.underlying237 Tryz.underlying9 mz239 rfl) (by rw [oi cl]))<|M ?_
 refine Ex ?_
 refine Ex ?_
 refine W.alloc [(int 0),(str [])] S zFN ?_
 intro d6 d7 S
 refine W.store (i:=0) [(int g50.1.fform),(str g50.1.fvalue)] S rfl rfl rfl zDD rfl rfl (Nat.le_of_ble_eq_true kr) rfl ?_
 intro d8 S
 refine A<|We<|Ws<|Wg<|M' ac<|B h fun g54 cm h=>?_
 refine WL.w (v:=.tuple ⟨[(agg [(int g54.1.fform),(str g54.1.fvalue)]),(boo g54.2)]⟩) (R.ofEq (R.lookup (fun x:Gcachecontrol_directive=>(agg [(int x.fform),(str x.fvalue)])) (i:=1) (m:=l) (z:=(⟨0,[]⟩:Gcachecontrol_directive)) S rfl rfl rfl Tryz.underlying237 Tryz.underlying9 mz239 rfl) (by rw [oi cm]))<|M ?_
 refine Ex ?_
 refine Ex ?_
 refine W.alloc [(int 0),(str [])] S zFN ?_
 intro d9 ea S
 refine W.store (i:=0) [(int g54.1.fform),(str g54.1.fvalue)] S rfl rfl rfl zDD rfl rfl (Nat.le_of_ble_eq_true kr) rfl ?_
 intro eb S
 refine A<|We<|Ws<|Wg<|M' ac<|B h fun g58 cn h=>?_
 refine WL.w (v:=.tuple ⟨[(agg [(int g58.1.fform),(str g58.1.fvalue)]),(boo g58.2)]⟩) (R.ofEq (R.lookup (fun x:Gcachecontrol_directive=>(agg [(int x.fform),(str x.fvalue)])) (i:=2) (m:=l) (z:=(⟨0,[]⟩:Gcachecontrol_directive)) S rfl rfl rfl Tryz.underlying237 Tryz.underlying9 mz239 rfl) (by rw [oi cn]))<|M ?_
 refine Ex ?_
 refine Ex ?_
 refine W.alloc [(int 0),(str [])] S zFN ?_
 intro ec ed S
 refine W.store (i:=0) [(int g58.1.fform),(str g58.1.fvalue)] S rfl rfl rfl zDD rfl rfl (Nat.le_of_ble_eq_true kr) rfl ?_
 intro ee S
 refine A<|We<|Ws<|Wg<|M' ac<|B h fun g62 co h=>?_
 refine WL.w (v:=.tuple ⟨[(agg [(int g62.1.fform),(str g62.1.fvalue)]),(boo g62.2)]⟩) (R.ofEq (R.lookup (fun x:Gcachecontrol_directive=>(agg [(int x.fform),(str x.fvalue)])) (i:=3) (m:=l) (z:=(⟨0,[]⟩:Gcachecontrol_directive)) S rfl rfl rfl Tryz.underlying237 Tryz.underlying9 mz239 rfl) (by rw [oi co]))<|M ?_
 refine Ex ?_
 refine Ex ?_
 refine W.alloc [(int 0),(str [])] S zFN ?_
 intro ef eg S
 refine W.store (i:=0) [(int g62.1.fform),(str g62.1.fvalue)] S rfl rfl rfl zDD rfl rfl (Nat.le_of_ble_eq_true kr) rfl ?_
 intro eh S
 refine A<|We<|Ws<|Wg<|M' ac<|B h fun g66 cp h=>?_
 refine WL.w (v:=.tuple ⟨[(agg [(int g66.1.fform),(str g66.1.fvalue)]),(boo g66.2)]⟩) (R.ofEq (R.lookup (fun x:Gcachecontrol_directive=>(agg [(int x.fform),(str x.fvalue)])) (i:=4) (m:=l) (z:=(⟨0,[]⟩:Gcachecontrol_directive)) S rfl rfl rfl Tryz.underlying237 Tryz.underlying9 mz239 rfl) (by rw [oi cp]))<|M ?_
 refine Ex ?_
 refine Ex ?_
 refine W.alloc [(int 0),(str [])] S zFN ?_
 intro ei ej S
 refine W.store (i:=0) [(int g66.1.fform),(str g66.1.fvalue)] S rfl rfl rfl zDD rfl rfl (Nat.le_of_ble_eq_true kr) rfl ?_
 intro ek S
 refine A<|We<|Ws<|Wg<|M' ac<|B h fun g70 cq h=>?_
 refine WL.w (v:=.tuple ⟨[(agg [(int g70.1.fform),(str g70.1.fvalue)]),(boo g70.2)]⟩) (R.ofEq (R.lookup (fun x:Gcachecontrol_directive=>(agg [(int x.fform),(str x.fvalue)])) (i:=5) (m:=l) (z:=(⟨0,[]⟩:Gcachecontrol_directive)) S rfl rfl rfl Tryz.underlying237 Tryz.underlying9 mz239 rfl) (by rw [oi cq]))<|M ?_
 refine Ex ?_
 refine Ex ?_
 refine W.alloc [(int 0),(str [])] S zFN ?_
 intro el em S
 refine W.store (i:=0) [(int g70.1.fform),(str g70.1.fvalue)] S rfl rfl rfl zDD rfl rfl (Nat.le_of_ble_eq_true kr) rfl ?_
 intro en S
 refine A<|We<|Ws<|Wg<|M' ac<|B h fun g74 cr h=>?_
 refine WL.w (v:=.tuple ⟨[(agg [(int g74.1.fform),(str g74.1.fvalue)]),(boo g74.2)]⟩) (R.ofEq (R.lookup (fun x:Gcachecontrol_directive=>(agg [(int x.fform),(str x.fvalue)])) (i:=6) (m:=l) (z:=(⟨0,[]⟩:Gcachecontrol_directive)) S rfl rfl rfl Tryz.underlying237 Tryz.underlying9 mz239 rfl) (by rw [oi cr]))<|M ?_
 refine Ex ?_
 refine Ex ?_
 refine W.alloc [(int 0),(str [])] S zFN ?_
 intro eo ep S
 refine W.store (i:=0) [(int g74.1.fform),(str g74.1.fvalue)] S rfl rfl rfl zDD rfl rfl (Nat.le_of_ble_eq_true kr) rfl ?_
 intro eq S
 refine A<|We<|Ws<|Wg<|M<|M ?_
 refine WL.grp 4 [97,98,99] 100 (boo (g50.2||(decide (64≤(k.length:Int))))) ?_ ?_
 ·rcases boolE g50.2 with ab | ab
  ·refine Gn ab<|Gn ab<|Gn ab<|Pt ab ?_
   exact We ⟨(orT ab),ag,rfl⟩
  refine Gy ab<|M' ck<|Gy ab<|Nq R8<|Gy ab<|Ld<|Pf ab ?_
  exact We ⟨(orF ab),ag,rfl⟩
 intro us
 refine M<|M<|M<|M<|M<|M ?_
 refine WL.w (R.build [(0,(boo (g50.2||(decide (64≤(k.length:Int)))))),(1,(boo g54.2)),(2,(boo g58.2)),(3,(boo g62.2)),(4,(boo g66.2)),(5,(boo g70.2)),(6,(boo g74.2)),(7,(int (-1))),(8,(int (-1))),(9,(int (-1))),(10,(int (-1)))] [(boo (g50.2||(decide (64≤(k.length:Int))))),(boo g54.2),(boo g58.2),(boo g62.2),(boo g66.2),(boo g70.2),(boo g74.2),(int (-1)),(int (-1)),(int (-1)),(int (-1))] bp153 zOi kr kr) ?_
 refine W.alloc [(boo false),(boo false),(boo false),(boo false),(boo false),(boo false),(boo false),(int 0),(int 0),(int 0),(int 0)] S zOi ?_
 intro d er S
 refine W.store (i:=0) [(boo (g50.2||(decide (64≤(k.length:Int))))),(boo g54.2),(boo g58.2),(boo g62.2),(boo g66.2),(boo g70.2),(boo g74.2),(int (-1)),(int (-1)),(int (-1)),(int (-1))] S rfl rfl rfl zLi rfl rfl (Nat.le_of_ble_eq_true kr) rfl ?_
 intro es S
 refine We<|Ws<|Ws<|Wg<|Fb ?_
 refine WL.w (R.build [(0,(str [109,97,120,45,97,103,101])),(1,(ptr d 7)),(2,(int 0)),(3,(int 0))] [(str [109,97,120,45,97,103,101]),(ptr d 7),(int 0),(int 0)] bp244 zIT rfl rfl)<|Fb ?_
 refine WL.w (R.build [(0,(str [115,45,109,97,120,97,103,101])),(1,(ptr d 8)),(2,(int 0)),(3,(int 0))] [(str [115,45,109,97,120,97,103,101]),(ptr d 8),(int 0),(int 0)] bp244 zIT rfl rfl)<|Fb ?_
 refine WL.w (R.build [(0,(str [109,105,110,45,102,114,101,115,104])),(1,(ptr d 9)),(2,(int 2147483647)),(3,(int 2147483647))] [(str [109,105,110,45,102,114,101,115,104]),(ptr d 9),(int 2147483647),(int 2147483647)] bp244 zIT rfl rfl)<|Fb ?_
 refine WL.w (R.build [(0,(str [109,97,120,45,115,116,97,108,101])),(1,(ptr d 10)),(2,(int 2147483647)),(3,(int 0))] [(str [109,97,120,45,115,116,97,108,101]),(ptr d 10),(int 2147483647),(int 0)] bp244 zIT rfl rfl) ?_
 refine W.bslice (α:=Raw 4) [(agg [(str [109,97,120,45,97,103,101]),(ptr d 7),(int 0),(int 0)]),(agg [(str [115,45,109,97,120,97,103,101]),(ptr d 8),(int 0),(int 0)]),(agg [(str [109,105,110,45,102,114,101,115,104]),(ptr d 9),(int 2147483647),(int 2147483647)]),(agg [(str [109,97,120,45,115,116,97,108,101]),(ptr d 10),(int 2147483647),(int 0)])] ([⟨[(str [109,97,120,45,97,103,101]),(ptr d 7),(int 0),(int 0)],rfl,rfl⟩,⟨[(str [115,45,109,97,120,97,103,101]),(ptr d 8),(int 0),(int 0)],rfl,rfl⟩,⟨[(str [109,105,110,45,102,114,101,115,104]),(ptr d 9),(int 2147483647),(int 2147483647)],rfl,rfl⟩,⟨[(str [109,97,120,45,115,116,97,108,101]),(ptr d 10),(int 2147483647),(int 0)],rfl,rfl⟩]:List (Raw 4)) S el245 rfl rfl rfl (by decide) (Go.Eng.encS ⟨rfl,rfl⟩ (Go.Eng.encS ⟨rfl,rfl⟩ (Go.Eng.encS ⟨rfl,rfl⟩ (Go.Eng.encS ⟨rfl,rfl⟩ enc0)))) ?_
 intro u et bu eu j S
 refine WL.w (v:=int 4) (R.ofEq (R.lenL (α:=Raw 4) (xs:=([⟨[(str [109,97,120,45,97,103,101]),(ptr d 7),(int 0),(int 0)],rfl,rfl⟩,⟨[(str [115,45,109,97,120,97,103,101]),(ptr d 8),(int 0),(int 0)],rfl,rfl⟩,⟨[(str [109,105,110,45,102,114,101,115,104]),(ptr d 9),(int 2147483647),(int 2147483647)],rfl,rfl⟩,⟨[(str [109,97,120,45,115,116,97,108,101]),(ptr d 10),(int 2147483647),(int 0)],rfl,rfl⟩]:List (Raw 4))) (H:=bu) j rfl Tryz.underlying245) rfl)<|M<|We<|Wb<|WP.loopRd 5<|RD.succ<|Ws<|Wg ?_
 refine WL.w (v:=boo true) (R.ofEq (R.lss rfl rfl) rfl)<|We<|Ws<|WP.condT (b:=true) rfl rfl ?_
 refine Wk<|Ws<|B h fun ad ai h=>WP.cut (fun f w=>∃ (ax:Hp),f 2=(ptr p 0)∧f 4=(mapv t)∧f 25=(ptr d 0)∧f 116=u∧f 117=(int 4)∧f 118=(int 0)∧Sl (α:=Raw 4) ax u ([⟨[(str [109,97,120,45,97,103,101]),(ptr d 7),(int 0),(int 0)],rfl,rfl⟩,⟨[(str [115,45,109,97,120,97,103,101]),(ptr d 8),(int 0),(int 0)],rfl,rfl⟩,⟨[(str [109,105,110,45,102,114,101,115,104]),(ptr d 9),(int 2147483647),(int 2147483647)],rfl,rfl⟩,⟨[(str [109,97,120,45,115,116,97,108,101]),(ptr d 10),(int 2147483647),(int 0)],rfl,rfl⟩]:List (Raw 4))∧St w0 H0 w ax [.row u 244 4 ([⟨[(str [109,97,120,45,97,103,101]),(ptr d 7),(int 0),(int 0)],rfl,rfl⟩,⟨[(str [115,45,109,97,120,97,103,101]),(ptr d 8),(int 0),(int 0)],rfl,rfl⟩,⟨[(str [109,105,110,45,102,114,101,115,104]),(ptr d 9),(int 2147483647),(int 2147483647)],rfl,rfl⟩,⟨[(str [109,97,120,45,115,116,97,108,101]),(ptr d 10),(int 2147483647),(int 0)],rfl,rfl⟩]:List (Raw 4)).length,.box d 153 [(boo (g50.2||(decide (64≤(k.length:Int))))),(boo g54.2),(boo g58.2),(boo g62.2),(boo g66.2),(boo g70.2),(boo g74.2),(int ad),(int (-1)),(int (-1)),(int (-1))],.mp t (encm (fun x:Gcachecontrol_directive=>(agg [(int x.fform),(str x.fvalue)])) l),.box p 153 [(boo false),(boo false),(boo false),(boo false),(boo false),(boo false),(boo false),(int 0),(int 0),(int 0),(int 0)]]) ?_ ?_
 ·refine Wb<|Ws<|Wg<|W.idx (α:=Raw 4) (c:=⟨[(str [109,97,120,45,97,103,101]),(ptr d 7),(int 0),(int 0)],rfl,rfl⟩) j rfl rfl el245 rfl ?_
  rintro ew _ ct rfl
  refine WL.w (R.loadHN (vs:=[(str [109,97,120,45,97,103,101]),(ptr d 7),(int 0),(int 0)]) S rfl ct zHr rfl rfl) ?_
  refine W.alloc [(str []),(.pointer none),(int 0),(int 0)] S zIT ?_
  intro ex ey S
  refine W.store (i:=0) [(str [109,97,120,45,97,103,101]),(ptr d 7),(int 0),(int 0)] S rfl rfl rfl zHr rfl rfl (Nat.le_of_ble_eq_true kr) rfl ?_
  intro ez S
  refine We<|Ws<|Wg<|M' ac<|Fb ?_
  refine Lo 0 S<|B ai fun g103 cu ai=>?_
  refine WL.w (v:=.tuple ⟨[(agg [(int g103.1.fform),(str g103.1.fvalue)]),(boo g103.2)]⟩) (R.ofEq (R.lookup (fun x:Gcachecontrol_directive=>(agg [(int x.fform),(str x.fvalue)])) (i:=10) (m:=l) (z:=(⟨0,[]⟩:Gcachecontrol_directive)) S rfl rfl rfl Tryz.underlying237 Tryz.underlying9 mz239 rfl) (by rw [oi cu]))<|M ?_
  refine Ex ?_
  refine Ex ?_
  refine W.alloc [(int 0),(str [])] S zFN ?_
  intro e0 e1 S
  refine W.store (i:=0) [(int g103.1.fform),(str g103.1.fvalue)] S rfl rfl rfl zDD rfl rfl (Nat.le_of_ble_eq_true kr) rfl ?_
  intro e2 S
  refine A<|We<|Ws<|Wg<|M<|We ?_
  rcases condE ai with ⟨a9,ai⟩ | ⟨a9,ai⟩
  ·refine CT a9<|WP.quietTail 9 S kr kr<|QFb ?_
   refine QB 1 (ptr d 7) ?_
   refine WQ.val (fun w hw=>by obtain ⟨_,hq,S⟩:=hw; exact (R.loadBN (i:=0) (vs:=[(int g103.1.fform),(str g103.1.fvalue)]) S rfl rfl zDD rfl rfl))<|QFb ?_
   refine QB 1 (int 0)<|QFb ?_
   refine QB 1 (int 0)<|B ai fun bv cv ai=>WQ.call (v:=int bv) rfl (fun w H' hq S=>zBP S.holds (hG.post S.post) g103.1 0 0 cv)<|QNn<|WQ.nil ?_
   intro e3 cw cx S
   have j:=j.up cx
   refine W.store (i:=3) [(boo (g50.2||(decide (64≤(k.length:Int))))),(boo g54.2),(boo g58.2),(boo g62.2),(boo g66.2),(boo g70.2),(boo g74.2),(int bv),(int (-1)),(int (-1)),(int (-1))] S rfl rfl rfl lay3 rfl rfl (Nat.le_of_ble_eq_true kr) rfl ?_
   intro e4 S
   refine We ?_
   obtain rfl:=oi ai
   exact ⟨cw,bt,ac,rfl,rfl,rfl,rfl,j,(S.pk [2,3,11,12])⟩
  refine CF a9<|Wk ?_
  obtain rfl:=oi ai
  exact ⟨bu,bt,ac,rfl,rfl,rfl,rfl,j,(S.pk [2,3,11,12])⟩
 rintro f w ⟨ax,bw,ba,bx,bb,bc,cy,j,S⟩
 refine Wg ?_
 refine WL.w (v:=int 1) (R.ofEq (R.add cy rfl) rfl)<|M<|We<|RD.succ<|Ws<|Wg ?_
 refine WL.w (v:=boo true) (R.ofEq (R.lss rfl bc) rfl)<|We<|Ws<|WP.condT (b:=true) rfl rfl<|Wk ?_
 refine Ws<|B h fun am aj h=>WP.cut (fun f w=>∃ (ay:Hp),f 2=(ptr p 0)∧f 4=(mapv t)∧f 25=(ptr d 0)∧f 116=u∧f 117=(int 4)∧f 118=(int 1)∧Sl (α:=Raw 4) ay u ([⟨[(str [109,97,120,45,97,103,101]),(ptr d 7),(int 0),(int 0)],rfl,rfl⟩,⟨[(str [115,45,109,97,120,97,103,101]),(ptr d 8),(int 0),(int 0)],rfl,rfl⟩,⟨[(str [109,105,110,45,102,114,101,115,104]),(ptr d 9),(int 2147483647),(int 2147483647)],rfl,rfl⟩,⟨[(str [109,97,120,45,115,116,97,108,101]),(ptr d 10),(int 2147483647),(int 0)],rfl,rfl⟩]:List (Raw 4))∧St w0 H0 w ay [.row u 244 4 ([⟨[(str [109,97,120,45,97,103,101]),(ptr d 7),(int 0),(int 0)],rfl,rfl⟩,⟨[(str [115,45,109,97,120,97,103,101]),(ptr d 8),(int 0),(int 0)],rfl,rfl⟩,⟨[(str [109,105,110,45,102,114,101,115,104]),(ptr d 9),(int 2147483647),(int 2147483647)],rfl,rfl⟩,⟨[(str [109,97,120,45,115,116,97,108,101]),(ptr d 10),(int 2147483647),(int 0)],rfl,rfl⟩]:List (Raw 4)).length,.box d 153 [(boo (g50.2||(decide (64≤(k.length:Int))))),(boo g54.2),(boo g58.2),(boo g62.2),(boo g66.2),(boo g70.2),(boo g74.2),(int ad),(int am),(int (-1)),(int (-1))],.mp t (encm (fun x:Gcachecontrol_directive=>(agg [(int x.fform),(str x.fvalue)])) l),.box p 153 [(boo false),(boo false),(boo false),(boo false),(boo false),(boo false),(boo false),(int 0),(int 0),(int 0),(int 0)]]) ?_ ?_
 ·refine Wb<|Ws<|Wg<|W.idx (α:=Raw 4) (c:=⟨[(str [115,45,109,97,120,97,103,101]),(ptr d 8),(int 0),(int 0)],rfl,rfl⟩) j bb rfl el245 rfl ?_
  rintro e5 _ cz rfl
  refine WL.w (R.loadHN (vs:=[(str [115,45,109,97,120,97,103,101]),(ptr d 8),(int 0),(int 0)]) S rfl cz zHr rfl rfl) ?_
  refine W.alloc [(str []),(.pointer none),(int 0),(int 0)] S zIT ?_
  intro e6 e7 S
  refine W.store (i:=0) [(str [115,45,109,97,120,97,103,101]),(ptr d 8),(int 0),(int 0)] S rfl rfl rfl zHr rfl rfl (Nat.le_of_ble_eq_true kr) rfl ?_
  intro e8 S
  refine We<|Ws<|Wg<|M' ba<|Fb ?_
  refine Lo 0 S<|B aj fun g132 c0 aj=>?_
  refine WL.w (v:=.tuple ⟨[(agg [(int g132.1.fform),(str g132.1.fvalue)]),(boo g132.2)]⟩) (R.ofEq (R.lookup (fun x:Gcachecontrol_directive=>(agg [(int x.fform),(str x.fvalue)])) (i:=3) (m:=l) (z:=(⟨0,[]⟩:Gcachecontrol_directive)) S rfl rfl rfl Tryz.underlying237 Tryz.underlying9 mz239 rfl) (by rw [oi c0]))<|M ?_
  refine Ex ?_
  refine Ex ?_
  refine W.alloc [(int 0),(str [])] S zFN ?_
  intro e9 fa S
  refine W.store (i:=0) [(int g132.1.fform),(str g132.1.fvalue)] S rfl rfl rfl zDD rfl rfl (Nat.le_of_ble_eq_true kr) rfl ?_
  intro fb S
  refine A<|We<|Ws<|Wg<|M<|We ?_
  rcases condE aj with ⟨bd,aj⟩ | ⟨bd,aj⟩
  ·refine CT bd<|WP.quietTail 9 S kr kr<|QFb ?_
   refine QB 1 (ptr d 8) ?_
   refine WQ.val (fun w hw=>by obtain ⟨_,hq,S⟩:=hw; exact (R.loadBN (i:=0) (vs:=[(int g132.1.fform),(str g132.1.fvalue)]) S rfl rfl zDD rfl rfl))<|QFb ?_
   refine QB 1 (int 0)<|QFb ?_
   refine QB 1 (int 0)<|B aj fun bz c1 aj=>WQ.call (v:=int bz) rfl (fun w H' hq S=>zBP S.holds (hG.post S.post) g132.1 0 0 c1)<|QNn<|WQ.nil ?_
   intro fc c2 c3 S
   have j:=j.up c3
   refine W.store (i:=3) [(boo (g50.2||(decide (64≤(k.length:Int))))),(boo g54.2),(boo g58.2),(boo g62.2),(boo g66.2),(boo g70.2),(boo g74.2),(int ad),(int bz),(int (-1)),(int (-1))] S rfl rfl rfl lay3 rfl rfl (Nat.le_of_ble_eq_true kr) rfl ?_
   intro fd S
   refine We ?_
   obtain rfl:=oi aj
   exact ⟨c2,bw,ba,bx,bb,bc,rfl,j,(S.pk [2,3,4,5])⟩
  refine CF bd<|Wk ?_
  obtain rfl:=oi aj
  exact ⟨ax,bw,ba,bx,bb,bc,rfl,j,(S.pk [2,3,4,5])⟩
 rintro f w ⟨ay,b0,be,b2,bf,bg,c7,j,S⟩
 refine Wg ?_
 refine WL.w (v:=int 2) (R.ofEq (R.add c7 rfl) rfl)<|M<|We<|RD.succ<|Ws<|Wg ?_
 refine WL.w (v:=boo true) (R.ofEq (R.lss rfl bg) rfl)<|We<|Ws<|WP.condT (b:=true) rfl rfl<|Wk ?_
 refine Ws<|B h fun ao ak h=>WP.cut (fun f w=>∃ (az:Hp),f 2=(ptr p 0)∧f 4=(mapv t)∧f 25=(ptr d 0)∧f 116=u∧f 117=(int 4)∧f 118=(int 2)∧Sl (α:=Raw 4) az u ([⟨[(str [109,97,120,45,97,103,101]),(ptr d 7),(int 0),(int 0)],rfl,rfl⟩,⟨[(str [115,45,109,97,120,97,103,101]),(ptr d 8),(int 0),(int 0)],rfl,rfl⟩,⟨[(str [109,105,110,45,102,114,101,115,104]),(ptr d 9),(int 2147483647),(int 2147483647)],rfl,rfl⟩,⟨[(str [109,97,120,45,115,116,97,108,101]),(ptr d 10),(int 2147483647),(int 0)],rfl,rfl⟩]:List (Raw 4))∧St w0 H0 w az [.row u 244 4 ([⟨[(str [109,97,120,45,97,103,101]),(ptr d 7),(int 0),(int 0)],rfl,rfl⟩,⟨[(str [115,45,109,97,120,97,103,101]),(ptr d 8),(int 0),(int 0)],rfl,rfl⟩,⟨[(str [109,105,110,45,102,114,101,115,104]),(ptr d 9),(int 2147483647),(int 2147483647)],rfl,rfl⟩,⟨[(str [109,97,120,45,115,116,97,108,101]),(ptr d 10),(int 2147483647),(int 0)],rfl,rfl⟩]:List (Raw 4)).length,.box d 153 [(boo (g50.2||(decide (64≤(k.length:Int))))),(boo g54.2),(boo g58.2),(boo g62.2),(boo g66.2),(boo g70.2),(boo g74.2),(int ad),(int am),(int ao),(int (-1))],.mp t (encm (fun x:Gcachecontrol_directive=>(agg [(int x.fform),(str x.fvalue)])) l),.box p 153 [(boo false),(boo false),(boo false),(boo false),(boo false),(boo false),(boo false),(int 0),(int 0),(int 0),(int 0)]]) ?_ ?_
 ·refine Wb<|Ws<|Wg<|W.idx (α:=Raw 4) (c:=⟨[(str [109,105,110,45,102,114,101,115,104]),(ptr d 9),(int 2147483647),(int 2147483647)],rfl,rfl⟩) j bf rfl el245 rfl ?_
  rintro fe _ da rfl
  refine WL.w (R.loadHN (vs:=[(str [109,105,110,45,102,114,101,115,104]),(ptr d 9),(int 2147483647),(int 2147483647)]) S rfl da zHr rfl rfl) ?_
  refine W.alloc [(str []),(.pointer none),(int 0),(int 0)] S zIT ?_
  intro ff fg S
  refine W.store (i:=0) [(str [109,105,110,45,102,114,101,115,104]),(ptr d 9),(int 2147483647),(int 2147483647)] S rfl rfl rfl zHr rfl rfl (Nat.le_of_ble_eq_true kr) rfl ?_
  intro fh S
  refine We<|Ws<|Wg<|M' be<|Fb ?_
  refine Lo 0 S<|B ak fun g161 db ak=>?_
  refine WL.w (v:=.tuple ⟨[(agg [(int g161.1.fform),(str g161.1.fvalue)]),(boo g161.2)]⟩) (R.ofEq (R.lookup (fun x:Gcachecontrol_directive=>(agg [(int x.fform),(str x.fvalue)])) (i:=3) (m:=l) (z:=(⟨0,[]⟩:Gcachecontrol_directive)) S rfl rfl rfl Tryz.underlying237 Tryz.underlying9 mz239 rfl) (by rw [oi db]))<|M ?_
  refine Ex ?_
  refine Ex ?_
  refine W.alloc [(int 0),(str [])] S zFN ?_
  intro fi fj S
  refine W.store (i:=0) [(int g161.1.fform),(str g161.1.fvalue)] S rfl rfl rfl zDD rfl rfl (Nat.le_of_ble_eq_true kr) rfl ?_
  intro w164 S
  refine A<|We<|Ws<|Wg<|M<|We ?_
  rcases condE ak with ⟨bh,ak⟩ | ⟨bh,ak⟩
  ·refine CT bh<|WP.quietTail 9 S kr kr<|QFb ?_
   refine QB 1 (ptr d 9) ?_
   refine WQ.val (fun w hw=>by obtain ⟨_,hq,S⟩:=hw; exact (R.loadBN (i:=0) (vs:=[(int g161.1.fform),(str g161.1.fvalue)]) S rfl rfl zDD rfl rfl))<|QFb ?_
   refine QB 1 (int 2147483647)<|QFb ?_
   refine QB 1 (int 2147483647)<|B ak fun b3 dc ak=>WQ.call (v:=int b3) rfl (fun w H' hq S=>zBP S.holds (hG.post S.post) g161.1 2147483647 2147483647 dc)<|QNn<|WQ.nil ?_
   intro fk dd de S
   have j:=j.up de
   refine W.store (i:=3) [(boo (g50.2||(decide (64≤(k.length:Int))))),(boo g54.2),(boo g58.2),(boo g62.2),(boo g66.2),(boo g70.2),(boo g74.2),(int ad),(int am),(int b3),(int (-1))] S rfl rfl rfl lay3 rfl rfl (Nat.le_of_ble_eq_true kr) rfl ?_
   intro fl S
   refine We ?_
   obtain rfl:=oi ak
   exact ⟨dd,b0,be,b2,bf,bg,rfl,j,(S.pk [2,3,4,5])⟩
  refine CF bh<|Wk ?_
  obtain rfl:=oi ak
  exact ⟨ay,b0,be,b2,bf,bg,rfl,j,(S.pk [2,3,4,5])⟩
 rintro f w ⟨az,b4,bi,b5,bj,bn,df,j,S⟩
 refine Wg ?_
 refine WL.w (v:=int 3) (R.ofEq (R.add df rfl) rfl)<|M<|We<|RD.succ<|Ws<|Wg ?_
 refine WL.w (v:=boo true) (R.ofEq (R.lss rfl bn) rfl)<|We<|Ws<|WP.condT (b:=true) rfl rfl<|Wk ?_
 refine Ws<|B h fun a0 al h=>WP.cut (fun f w=>∃ (bo:Hp),f 2=(ptr p 0)∧f 4=(mapv t)∧f 25=(ptr d 0)∧f 116=u∧f 117=(int 4)∧f 118=(int 3)∧Sl (α:=Raw 4) bo u ([⟨[(str [109,97,120,45,97,103,101]),(ptr d 7),(int 0),(int 0)],rfl,rfl⟩,⟨[(str [115,45,109,97,120,97,103,101]),(ptr d 8),(int 0),(int 0)],rfl,rfl⟩,⟨[(str [109,105,110,45,102,114,101,115,104]),(ptr d 9),(int 2147483647),(int 2147483647)],rfl,rfl⟩,⟨[(str [109,97,120,45,115,116,97,108,101]),(ptr d 10),(int 2147483647),(int 0)],rfl,rfl⟩]:List (Raw 4))∧St w0 H0 w bo [.row u 244 4 ([⟨[(str [109,97,120,45,97,103,101]),(ptr d 7),(int 0),(int 0)],rfl,rfl⟩,⟨[(str [115,45,109,97,120,97,103,101]),(ptr d 8),(int 0),(int 0)],rfl,rfl⟩,⟨[(str [109,105,110,45,102,114,101,115,104]),(ptr d 9),(int 2147483647),(int 2147483647)],rfl,rfl⟩,⟨[(str [109,97,120,45,115,116,97,108,101]),(ptr d 10),(int 2147483647),(int 0)],rfl,rfl⟩]:List (Raw 4)).length,.box d 153 [(boo (g50.2||(decide (64≤(k.length:Int))))),(boo g54.2),(boo g58.2),(boo g62.2),(boo g66.2),(boo g70.2),(boo g74.2),(int ad),(int am),(int ao),(int a0)],.mp t (encm (fun x:Gcachecontrol_directive=>(agg [(int x.fform),(str x.fvalue)])) l),.box p 153 [(boo false),(boo false),(boo false),(boo false),(boo false),(boo false),(boo false),(int 0),(int 0),(int 0),(int 0)]]) ?_ ?_
 ·refine Wb<|Ws<|Wg<|W.idx (α:=Raw 4) (c:=⟨[(str [109,97,120,45,115,116,97,108,101]),(ptr d 10),(int 2147483647),(int 0)],rfl,rfl⟩) j bj rfl el245 rfl ?_
  rintro fm _ dh rfl
  refine WL.w (R.loadHN (vs:=[(str [109,97,120,45,115,116,97,108,101]),(ptr d 10),(int 2147483647),(int 0)]) S rfl dh zHr rfl rfl) ?_
  refine W.alloc [(str []),(.pointer none),(int 0),(int 0)] S zIT ?_
  intro fn fo S
  refine W.store (i:=0) [(str [109,97,120,45,115,116,97,108,101]),(ptr d 10),(int 2147483647),(int 0)] S rfl rfl rfl zHr rfl rfl (Nat.le_of_ble_eq_true kr) rfl ?_
  intro fp S
  refine We<|Ws<|Wg<|M' bi<|Fb ?_
  refine Lo 0 S<|B al fun g190 di al=>?_
  refine WL.w (v:=.tuple ⟨[(agg [(int g190.1.fform),(str g190.1.fvalue)]),(boo g190.2)]⟩) (R.ofEq (R.lookup (fun x:Gcachecontrol_directive=>(agg [(int x.fform),(str x.fvalue)])) (i:=3) (m:=l) (z:=(⟨0,[]⟩:Gcachecontrol_directive)) S rfl rfl rfl Tryz.underlying237 Tryz.underlying9 mz239 rfl) (by rw [oi di]))<|M ?_
  refine Ex ?_
  refine Ex ?_
  refine W.alloc [(int 0),(str [])] S zFN ?_
  intro fq fr S
  refine W.store (i:=0) [(int g190.1.fform),(str g190.1.fvalue)] S rfl rfl rfl zDD rfl rfl (Nat.le_of_ble_eq_true kr) rfl ?_
  intro fs S
  refine A<|We<|Ws<|Wg<|M<|We ?_
  rcases condE al with ⟨bp,al⟩ | ⟨bp,al⟩
  ·refine CT bp<|WP.quietTail 9 S kr kr<|QFb ?_
   refine QB 1 (ptr d 10) ?_
   refine WQ.val (fun w hw=>by obtain ⟨_,hq,S⟩:=hw; exact (R.loadBN (i:=0) (vs:=[(int g190.1.fform),(str g190.1.fvalue)]) S rfl rfl zDD rfl rfl))<|QFb ?_
   refine QB 1 (int 2147483647)<|QFb ?_
   refine QB 1 (int 0)<|B al fun b6 dj al=>WQ.call (v:=int b6) rfl (fun w H' hq S=>zBP S.holds (hG.post S.post) g190.1 2147483647 0 dj)<|QNn<|WQ.nil ?_
   intro ft dk dl S
   have j:=j.up dl
   refine W.store (i:=3) [(boo (g50.2||(decide (64≤(k.length:Int))))),(boo g54.2),(boo g58.2),(boo g62.2),(boo g66.2),(boo g70.2),(boo g74.2),(int ad),(int am),(int ao),(int b6)] S rfl rfl rfl lay3 rfl rfl (Nat.le_of_ble_eq_true kr) rfl ?_
   intro fu S
   refine We ?_
   obtain rfl:=oi al
   exact ⟨dk,b4,bi,b5,bj,bn,rfl,j,(S.pk [2,3,4,5])⟩
  refine CF bp<|Wk ?_
  obtain rfl:=oi al
  exact ⟨az,b4,bi,b5,bj,bn,rfl,j,(S.pk [2,3,4,5])⟩
 rintro f w ⟨bo,b7,fv,dm,fw,dn,dp,j,S⟩
 refine Wg ?_
 refine WL.w (v:=int 4) (R.ofEq (R.add dp rfl) rfl)<|M<|We<|RD.succ<|Ws<|Wg ?_
 refine WL.w (v:=boo false) (R.ofEq (R.lss rfl dn) rfl)<|We<|Ws<|WP.condF (b:=false) rfl rfl<|Wx ?_
 refine Ws<|Wg ?_
 refine WL.w (R.loadBN (i:=1) (vs:=[(boo (g50.2||(decide (64≤(k.length:Int))))),(boo g54.2),(boo g58.2),(boo g62.2),(boo g66.2),(boo g70.2),(boo g74.2),(int ad),(int am),(int ao),(int a0)]) S dm rfl zLi rfl rfl) ?_
 refine W.store (i:=3) [(boo (g50.2||(decide (64≤(k.length:Int))))),(boo g54.2),(boo g58.2),(boo g62.2),(boo g66.2),(boo g70.2),(boo g74.2),(int ad),(int am),(int ao),(int a0)] S b7 rfl rfl zLi rfl rfl (Nat.le_of_ble_eq_true kr) rfl ?_
 intro fx S
 refine We ?_
 obtain rfl:=oi h
 refine WP.ret (Out.one rfl S (Res.cellB (i:=3) (cs:=[(boo (g50.2||(decide (64≤(k.length:Int))))),(boo g54.2),(boo g58.2),(boo g62.2),(boo g66.2),(boo g70.2),(boo g74.2),(int ad),(int am),(int ao),(int a0)]) S b7 rfl zLi rfl rfl) ?_)
 exact rfl
end Go.Proofs

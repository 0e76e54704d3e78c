/- A part. -/
import Derived.Test.YtihjhdoinmfddaaGreatDoorGenN5
set_option linter.unusedVariables false
set_option linter.unusedSimpArgs false
set_option maxHeartbeats 4000000
set_option maxRecDepth 10000
namespace Go.Proofs
open Go.Eng Go.Eng.Pure
theorem zIm {t:World} {k:Hp} (hw:Holds t k) (hG:GlX t k) (ai:(List GAxis)) (ad:(List Str)) {al:Value} {ae:Value} (d:Sl k al ai) (c:Sl k ae ad) {r:((List Str)×Bool)} (h:zCE ai ad=some r) :
  Con Tryz.prog 218 [al,ae] t k (fun H' v=>∃ u1:Value,v=(.tuple ⟨[u1,(boo r.2)]⟩)∧Sl H' u1 r.1):=by
 refine CM 41 Tryz.func218 hw fun S=>?_
 refine Ws<|Wg ?_;refine W.box [ae] S rfl (congrArg Array.toList (Sl.cellsOne c)) ?_;intro b1 w2 S;refine A<|A<|We<|Ws<|Ws<|Wg ?_;refine Lo 0 S<|Nq c<|M<|Nq d<|Lf<|We ?_;rcases condE h with ⟨aw,h⟩ | ⟨aw,h⟩
 ·refine CT aw<|Ws<|Wg<|A<|A<|We ?_
  obtain rfl:=oi h;refine WP.ret (Out.two rfl S rfl rfl ?_);exact ⟨_,rfl,Sl.nil⟩
 refine CF aw<|Wk<|Ws<|Wg ?_;refine Lo 0 S<|Nq c<|B h fun l4 bq h=>W.makeSlice (α:=Str) (zv:=(str [])) (z:=[]) S el33 rfl rfl rfl zer9 rfl bq ?_
 intro u w6 bc n8 br ax S;refine A<|We<|Ws<|Ws<|Wg<|M<|Nq d<|M<|We ?_;obtain ⟨ay,bd,bs,_,S⟩:=S.settle (i:=1) rfl;replace S:St t k _ ay [.box u 9 bc]:=S;have j:At ay ⟨b1,0,none⟩ [ae]:=⟨_,_,rfl,bs,[],by simp⟩;have ⟨d,c⟩:=U2 bd d c;have ax:=Ms.mono ax bd;refine B h fun az bt h=>WP.cut (fun f w=>match az with | .inl an=>∃ (a0:Hp) (ao:List Value),f 6=(.slice (some ⟨u,0,none⟩) n8 n8)∧Ms a0 ao an∧an.length=n8∧St t k w a0 [.box u 9 ao] | .inr _=>False) ?_ ?_
 ·refine Wb ?_
  refine WP.loopM (zAb ai ad) (fun s f w=>match s with | (x,ap)=>∃ (ab:Hp) (af:List Value),f 3=(Value.pointer (some ⟨b1,0,none⟩))∧f 6=(.slice (some ⟨u,0,none⟩) n8 n8)∧f 18=al∧f 19=(int (ai.length:Int))∧f 20=(int x)∧At ab ⟨b1,0,none⟩ [ae]∧Sl ab ae ad∧Sl ab al ai∧Ms ab af ap∧ap.length=n8∧St t k w ab [.box u 9 af]) (0,l4) az bt ?_ ?_
  ·exact ⟨ay,bc,rfl,rfl,rfl,rfl,rfl,j,c,d,ax,br,S⟩
  intro s f w hI cj b be;obtain ⟨x,ap⟩:=s;obtain ⟨ab,af,bf,a1,bg,bh,aq,j,c,d,o,a2,S⟩:=hI;refine Ws<|Wg<|La' aq bh<|We<|Ws ?_;rcases condE b with ⟨a3,b⟩ | ⟨a3,b⟩
  ·refine CT a3<|Wk<|Ws<|Wb<|Ws<|Wg<|M' aq<|B b fun ac bu b=>W.idx (α:=GAxis) d bg aq el76 bu ?_
   rintro ck _ bv ⟨aj,rfl,p⟩;refine WL.wz (R.loadHN (vs:=[(str ac.fName),aj]) S rfl bv zM0 rfl rfl) ?_;refine W.alloc [(int 0)] S zer3 ?_;intro a4 cl S;refine W.alloc [(str []),(.slice none 0 0)] S zWe ?_;intro bi cm S;refine W.store (i:=1) [(int x)] S rfl rfl rfl lay3 rfl rfl (nL kr) rfl ?_;intro cn S;refine W.store (i:=0) [(str ac.fName),aj] S rfl rfl rfl zM0 rfl (AllOne.all (l:=[(str ac.fName),aj]) (.cons rfl (.cons (Sl.oneC p) .nil))) (nL kr) rfl ?_;intro co S;refine We<|Ws<|Wg<|Fb ?_;refine Lo 0 S ?_;obtain ⟨bj,a5,bw,_,S⟩:=S.settle (i:=0) rfl;replace S:St t k _ bj [.box a4 3 [(int x)],.box u 9 af]:=S;have ah:At bj ⟨bi,0,none⟩ [(str ac.fName),aj]:=⟨_,_,rfl,bw,[],by simp⟩;have j:=At.mono j a5 (by simp);have ⟨c,d,p⟩:=U3 a5 c d p;have o:=Ms.mono o a5;obtain ⟨bn,au,bx,_,S⟩:=S.settle (i:=0) rfl;replace S:St t k _ bn [.box u 9 af]:=S;have av:At bn ⟨a4,0,none⟩ [(int x)]:=⟨_,_,rfl,bx,[],by simp⟩;have j:=At.mono j au (by simp);have ⟨c,d,p⟩:=U3 au c d p;have ah:=At.mono ah au (by simp);have o:=Ms.mono o au;refine WL.wz (R.mkFunc (vs:=[(Value.pointer (some ⟨bi,0,none⟩)),(Value.pointer (some ⟨b1,0,none⟩)),(Value.pointer (some ⟨a4,0,none⟩))]) (mapC rfl (mapC bf (mapC rfl mapN))))<|B b fun cp bz b=>W.call S rfl (zCF S.holds (hG.pstX S.post) ac.fValues (fun x0=>zBm x0 ac ad x) p (fun hle hw hG x0 r h=>zHr hw hG x0 ac ad x (At.mono ah hle (by simp)) (p.up hle) (At.mono j hle (by simp)) (c.up hle) (At.mono av hle (by simp)) h) bz) ?_
   rintro cq cr cs ak S rfl;have j:=At.mono j ak (by simp);have ⟨c,d,p⟩:=U3 ak c d p;have av:=At.mono av ak (by simp);have ah:=At.mono ah ak (by simp);have o:=Ms.mono o ak;refine A<|We<|Ws<|Ws<|Wg<|M<|La<|We ?_;rcases condE b with ⟨a7,b⟩ | ⟨a7,b⟩
   ·refine CT a7<|Ws<|Wg<|A<|A<|We ?_
    obtain rfl:=oi b;obtain rfl:=be;obtain rfl:=oi h;refine WP.ret (Out.two rfl S rfl rfl ?_);exact ⟨_,rfl,Sl.nil⟩
   refine CF a7<|Wk<|WP.quietTail 8 S kr kr<|QM' a1 ?_;refine QH (int x) av<|QFc ?_;have b0:=At.add ah 1 (by simp);refine QH aj b0<|QM<|B b fun b2 b3 b=>WQ.idx (α:=Str) p rfl rfl el33 b3 ?_
   rintro ct _ b4 rfl;refine QH (str b2) b4<|B b fun cu b6 b=>?_
   refine WQ.val (fun _ _=>(R.idxM (α:=Str) (xs:=ap) rfl a2 rfl el33 b6))<|WQ.nil ?_;intro cv b7 a8 S;have j:=At.mono j a8 (by simp);have ⟨c,d⟩:=U2 a8 c d;have o:=Ms.mono o a8;refine B b fun cw bo b=>?_
   refine W.storeM (α:=Str) (i:=0) (m:=x) S o rfl rfl rfl lay9 rfl rfl bo ?_;intro cx b8 b9 S;have ca:=(zGj bo).1.trans a2;refine We<|Wg<|Lg' aq rfl<|M<|We ?_;obtain rfl:=oi b;exact ⟨rfl,⟨b7,b8,bf,a1,bg,bh,rfl,j,c,d,b9,ca,S⟩⟩
  refine CF a3<|Wx ?_;obtain rfl:=oi b;obtain rfl:=be;exact ⟨ab,af,a1,o,a2,S⟩
 intro f w hM;rcases az with an | e
 ·obtain ⟨a0,ao,cb,a9,cc,S⟩:=hM
  refine Ws<|Wg<|M' cb<|A<|A<|We ?_;obtain ⟨ba,cd,ce,_,S⟩:=S.settle (i:=0) rfl;replace S:St t k _ ba []:=S;have cf:At ba ⟨u,0,none⟩ ao:=⟨_,_,rfl,ce,[],by simp⟩;have a9:=Ms.mono a9 cd;have cg:Sl ba (.slice (some ⟨u,0,none⟩) n8 n8) an:=Ms.sl a9 cc cf;obtain rfl:=oi h;refine WP.ret (Out.two rfl S rfl rfl ?_);exact ⟨_,rfl,cg⟩
 exact hM.elim
end Go.Proofs
namespace Go.Proofs
open Go Go.Eng Go.VI Go.Eng.Pure
theorem c218:FK ⟨218,[(.sl (.st 278)),(.sl .str)],[(.sl .str),.boo],fun x=>zCE x.1 x.2⟩:=@fun w H az x y hw hg b hT h=>by
 obtain ⟨f,_,rfl,c,⟨i,rfl,d⟩⟩:=hT;exact (zIm hw ⟨b.gl,b,hg⟩ x.1 x.2 c d h).mono (fun _ _ ⟨j,e,K0⟩=>⟨[_,_],e,_,_,rfl,K0,⟨_,rfl,rfl⟩⟩)
theorem c256:FK ⟨256,[.str],[.int],fun x=>zFV x⟩:=mk anil (.n .e (.n (.n .e (.lp ⟨[iS 3 .int],some [],[]⟩ (some ⟨[],some [],[]⟩) true .e)) .e)) Tryz.func256
theorem c255:FK ⟨255,[.str],[.int],fun x=>zI6 x⟩:=mk (fcons c98 anil) (.e) Tryz.func255
end Go.Proofs
namespace Go.Proofs
open Go.Eng Go.Eng.Pure
theorem zJV {l:World} {o:Hp} (hw:Holds l o) (hG:GlX l o) (k:Str) (c:Str) {r:Str} (h:zCn k c=some r) :
  Cs Tryz.prog 254 [(str k),(str c)] l o r:=by
 refine CM 37 Tryz.func254 hw fun S=>?_
 refine Ws<|Wg<|A<|We<|Ws<|Ws<|Wg<|M<|Na<|M ?_;refine WL.grp 3 [10,11] 12 (boo ((k==[])||(c==[]))) ?_ ?_
 ·rcases boolE (k==[]) with f | f
  ·refine Gn f<|Gn f<|Pt f ?_
   exact We ⟨(orT f),ag,rfl⟩
  refine Gy f<|M<|Gy f<|Na<|Pf f ?_;exact We ⟨(orF f),ag,rfl⟩
 intro us;refine We ?_;rcases condE h with ⟨p,h⟩ | ⟨p,h⟩
 ·refine CT p<|Ws<|Wg<|M<|A<|We ?_
  exact WP.ret (Rs h S)
 refine CF p<|Wk<|Ws<|Ws<|Wg<|M<|Ns<|Le<|M<|B h fun v j h=>WL.grp 4 [18,19,20] 21 (boo v) ?_ ?_
 ·rcases boolE ((c.length:Int)==1) with d | d
  ·replace j:=condT j d
   refine Gy d<|M<|Gy d<|B j fun x z j=>Ja z<|Gy d<|Ma x 128<|Pt d ?_
   exact We ⟨(ob j),ag,rfl⟩
  replace j:=condF j d;refine Gn d<|Gn d<|Gn d<|Pf d ?_;exact We ⟨(ob j),ag,rfl⟩
 intro us;refine We ?_;rcases condE h with ⟨t,h⟩ | ⟨t,h⟩
 ·refine CT t<|Ws<|Wg<|M<|M<|B h fun c9 ab h=>Ja ab<|B h fun aj ac h=>W.call S rfl (zEP S.holds (hG.pstX S.post) k c9 ac) ?_
  rintro ak al am an S rfl;refine A<|We ?_;exact WP.ret (Rs h S)
 refine CF t<|Wk<|Ws<|Ws<|Wg<|M<|B h fun ao ad h=>W.call S rfl (zEd S.holds c ad) ?_
 rintro ap aq au av S rfl;refine M ?_;refine Ex ?_;refine Ex ?_;refine W.alloc (List.replicate 256 (boo false)) S zWZ ?_;intro ae aw S;refine W.store (i:=0) (setc c) S rfl rfl rfl zUo (show (Lib.setCells c).size=256 by have:=zGk c; simpa [setc] using this) (zRG c) (Nat.le_of_eq (by rw [List.length_replicate])) (zND ((zGk c).trans (by rw [List.length_replicate]))) ?_;intro ax S;obtain ⟨u,ay,af,_,S⟩:=S.settle (i:=0) rfl;replace S:St l o _ u []:=S;have ah:At u ⟨ae,0,none⟩ (setc c):=⟨_,_,rfl,af,[],by simp⟩;refine A<|We<|Ws<|Wg<|M<|We<|WP.condT (b:=true) rfl rfl<|Ws<|Wg<|M<|B h fun az ai h=>W.call S rfl (zEA S.holds (hG.pstX S.post) k c ah ai) ?_
 rintro a0 a1 a2 a3 S rfl;refine A<|We ?_;exact WP.ret (Rs h S)
end Go.Proofs
namespace Go.Proofs
open Go Go.Eng Go.VI Go.Eng.Pure
theorem c254:FK ⟨254,[.str,.str],[.str],fun x=>zCn x.1 x.2⟩:=@fun w H az x y hw hg b hT h=>by
 obtain ⟨c,_,rfl,d,⟨f,rfl,i⟩⟩:=hT;obtain rfl:c=_:=d;obtain rfl:f=_:=i;exact (zJV hw ⟨b.gl,b,hg⟩ x.1 x.2 h).mono (fun _ _ e=>⟨[_],e,_,rfl,rfl⟩)
theorem c217:FK ⟨217,[.str],[(.sl .str),.boo],fun x=>zHK x⟩:=mk (fcons c256 (fcons c255 (fcons c254 (fcons c210 anil)))) (.n .e (.n .e (.n .e (.n .e (.lp ⟨[iS 0 .str,iR 4 (.sl .str) 9],some [],[]⟩ none true (.n (.n .e (.n .e (.n .e (.n (.n .e (.j ⟨[iS 5 .int],some [.sl 4],[]⟩ false .e)) (.n .e (.n .e (.n (.n .e (.j ⟨[iS 6 .str],some [.sl 4],[]⟩ true .e)) .e))))))) .e)))))) Tryz.func217
theorem c156:FK ⟨156,[(.sl (.st 138)),(.sl (.st 278))],[(.sl (.sl .str)),.int],fun x=>zDv x.1 x.2⟩:=mk (wc wI179 (wc wI237 (wc wI219 (fcons c177 (fcons c218 (fcons c217 (fcons c118 (fcons c158 anil)))))))) (.n .e (.n .e (.n .e (.n .e (.n .e (.n (.n .e (.lp ⟨[iR 7 (.sl (.sl .str)) 33,iS 27 .int],some [],[]⟩ (some ⟨[iR 7 (.sl (.sl .str)) 33],some [],[]⟩) true .e)) (.n .e (.n (.n .e (.lp ⟨[iR 12 (.sl (.sl .str)) 33,iS 45 .int],some [.sl 43],[]⟩ (some ⟨[iR 12 (.sl (.sl .str)) 33],some [],[]⟩) true .e)) .e)))))))) Tryz.func156
theorem c155:FK ⟨155,[(.sl (.st 138))],[(.sl (.st 278)),.int],fun x=>zFB x⟩:=mk (fcons c217 (fcons c158 (fcons c149 (fcons c118 (fcons c100 (fcons c70 (fcons c18 anil))))))) (.n .e (.n .e (.n .e (.n (.n .e (.lp ⟨[iR 4 (.sl (.st 278)) 278,iS 18 .int],some [],[]⟩ (some ⟨[iR 4 (.sl (.st 278)) 278],some [],[]⟩) true .e)) .e)))) Tryz.func155
end Go.Proofs
namespace Go.Proofs
open Go.Eng Go.Eng.Pure
theorem zIA:SortCon Tryz.prog 215:=⟨zHk Tryz.func215 rfl kr,Tryz.slices_Sort_string_none,Tryz.slices_Sort_string⟩
theorem zGz:CompactCon Tryz.prog 216:=⟨zHk Tryz.func216 rfl kr,Tryz.slices_Compact_string_empty,Tryz.slices_Compact_string⟩
theorem zNZ {l:World} {k:Hp} (hw:Holds l k) (hG:GlX l k) (u:(List GField)) {aj:Value} (ak:Sl k aj u) {r:((List Str)×Bool)} (h:zEK u=some r) :
  Con Tryz.prog 154 [aj] l k (fun H' v=>∃ u1:Value,v=(.tuple ⟨[u1,(boo r.2)]⟩)∧Sl H' u1 r.1):=by
 refine CM 36 Tryz.func154 hw fun S=>?_
 have bj:=ak;refine Ws<|Wg<|A<|A<|We<|Ws<|Wg<|M<|B h fun x ay h=>W.call S rfl (zJZ S.holds (hG.pstX S.post) u [86,97,114,121] ak ay) ?_
 rintro v2 w3 H4 bo S c;refine A<|We<|Ws<|Ws<|Wg<|M<|Nq c<|Ld<|We ?_;rcases condE h with ⟨z,h⟩ | ⟨z,h⟩
 ·refine CT z<|Ws<|Wg<|A<|A<|We ?_
  obtain rfl:=oi h;refine WP.ret (Out.two rfl S rfl rfl ?_);exact ⟨_,rfl,Sl.nil⟩
 refine CF z<|Wk<|Ws<|Wg<|A<|We<|Ws<|Ws<|Wg<|M<|Nq c<|M ?_;refine We ?_;have S:=S.addNil 9 1;refine B h fun aa a0 h=>WP.cut (fun f w=>match aa with | .inl ab=>∃ (ac:Hp) (t:Value),f 5=t∧Sl ac t ab∧St l k w ac [.row t 9 1 ab.length] | .inr _=>False) ?_ ?_
 ·refine Wb ?_
  refine WP.loopM (zDa x) (fun s f w=>match s with | (ad,an)=>∃ (o:Hp) (p:Value),f 5=p∧f 13=v2∧f 14=(int (x.length:Int))∧f 15=(int an)∧Sl o p ad∧Sl o v2 x∧St l k w o [.row p 9 1 ad.length]) (([]:List Str),0) aa a0 ?_ ?_
  ·exact ⟨H4,.slice none 0 0,rfl,rfl,rfl,rfl,Sl.nil,c,S⟩
  intro s f w hI bp b ao;obtain ⟨ad,an⟩:=s;obtain ⟨o,p,ap,aq,au,ae,d,c,S⟩:=hI;refine Ws<|Wg<|La' ae au<|We<|Ws ?_;rcases condE b with ⟨af,b⟩ | ⟨af,b⟩
  ·refine CT af<|Wk<|Ws<|Wb<|Ws<|Wg<|B b fun ah a1 b=>W.idx (α:=Str) c aq ae el33 a1 ?_
   rintro bq _ a2 rfl;refine Lq S a2<|A<|We<|Ws<|Ws<|Wg<|M<|B b fun av a3 b=>W.call S rfl (zJO S.holds (hG.pstX S.post) ah a3) ?_
   rintro br bs bt a4 S rfl;have ⟨d,c⟩:=U2 a4 d c;refine No<|M ?_;refine WL.grp 3 [23,24] 25 (boo ((!av)||(ah==[42]))) ?_ ?_
   ·rcases boolE (!av) with j | j
    ·refine Gn j<|Gn j<|Pt j ?_
     exact We ⟨(orT j),ag,rfl⟩
    refine Gy j<|M<|Gy j<|Na<|Pf j ?_;exact We ⟨(orF j),ag,rfl⟩
   intro us;refine We ?_;rcases condE b with ⟨ai,b⟩ | ⟨ai,b⟩
   ·refine CT ai<|Ws<|Wg<|A<|A<|We ?_
    obtain rfl:=oi b;obtain rfl:=ao;obtain rfl:=oi h;refine WP.ret (Out.two rfl S rfl rfl ?_);exact ⟨_,rfl,Sl.nil⟩
   refine CF ai<|Wk<|Wg<|M' ap<|M<|B b fun aw a5 b=>W.call S rfl (zBJ S.holds (hG.pstX S.post) ah a5) ?_
   rintro bu bv bw a6 S rfl;have ⟨d,c⟩:=U2 a6 d c;refine W.bslice (α:=Str) [(str aw)] ([aw]:List Str) S el33 rfl rfl rfl (by decide) (Go.Eng.encS ⟨rfl,rfl⟩ enc0) ?_;intro bx bz b0 a7 a8 S;have ⟨d,c⟩:=U2 a7 d c;refine B b fun b1 a9 b=>W.app (α:=Str) (i:=1) S el33 rfl rfl rfl d a8 a9 ?_
   intro ba b2 bb bc bd S;have ⟨d,c⟩:=U2 bc d c;refine A<|We<|Wg<|Lg' ae rfl<|M<|We ?_;obtain rfl:=oi b;exact ⟨rfl,⟨bb,ba,rfl,aq,au,rfl,bd,c,(S.pk [1])⟩⟩
  refine CF af<|Wx ?_;obtain rfl:=oi b;obtain rfl:=ao;exact ⟨o,p,ap,d,S⟩
 intro f w hM;rcases aa with ab | e
 ·obtain ⟨ac,t,ax,be,S⟩:=hM
  refine Ws<|Wg<|M' ax<|B h fun b3 bf h=>W.sortRow (i:=0) zIA hw S rfl rfl be bf ?_
  intro b4 b5 b6 bg S;refine We<|Ws<|Wg<|M' ax<|B h fun b7 bh h=>W.compactRow (i:=0) zGz hw S rfl rfl bg bh ?_
  intro b8 b9 ca cb bi S;refine A<|A<|We ?_;obtain rfl:=oi h;refine WP.ret (Out.two rfl S rfl rfl ?_);exact ⟨_,rfl,bi⟩
 exact hM.elim
end Go.Proofs
namespace Go.Proofs
open Go Go.Eng Go.VI Go.Eng.Pure
theorem c154:FK ⟨154,[(.sl (.st 138))],[(.sl .str),.boo],fun x=>zEK x⟩:=@fun w H az x y hw hg b hT h=>by
 obtain ⟨d,rfl,c⟩:=hT;exact (zNZ hw ⟨b.gl,b,hg⟩ x c h).mono (fun _ _ ⟨f,e,K0⟩=>⟨[_,_],e,_,_,rfl,K0,⟨_,rfl,rfl⟩⟩)
theorem c93:FK ⟨93,[(.st 63),(.st 92),.int,.int],[(.st 87),(.sl (.st 278))],fun x=>zIu x.1 x.2.1 x.2.2.1 x.2.2.2⟩:=mk (fcons c157 (fcons c156 (fcons c155 (fcons c154 (fcons c89 anil))))) (.e) Tryz.func93 [(1,11,[.t 0,.t 1,.t 2,.t 3,.t 5,.t 6,.t 7,.t 8,.p 10,.pl 4,.pt 9,.r,.l 11 false])]
theorem c92:FK ⟨92,[(.st 63),(.st 92)],[.boo],fun x=>zDP x.1 x.2⟩:=mk (fcons c154 (fcons c122 (fcons c86 (fcons c70 (fcons c63 (fcons c61 anil)))))) (.e) Tryz.func92
theorem c226:FK ⟨226,[.str],[.boo],fun x=>zDZ x⟩:=mk anil (.n .e (.n (.n .e (.lp ⟨[iS 6 .int],some [],[]⟩ (some ⟨[],some [],[]⟩) true .e)) .e)) Tryz.func226
theorem c160:FK ⟨160,[.str],[.str,.str,.int,.int],fun x=>zAf x⟩:=mk (wc wI201 (wc w200 (isC (fcons c247 (fcons c226 (fcons c18 (fcons c100 anil))))))) (.e) Tryz.func160
theorem c71:FK ⟨71,[(.sl (.st 138)),.str,.str],[(.sl (.st 138))],fun x=>zFu x.1 x.2.1 x.2.2⟩:=mk (wc w132 (wc w195 (fcons c149 anil))) (.n .e (.n .e (.n .e (.n (.n .e (.lp ⟨[iS 8 .boo,iR 9 (.sl (.st 138)) 138,iS 16 .int],some [],[]⟩ (some ⟨[iS 8 .boo,iR 9 (.sl (.st 138)) 138],some [],[]⟩) false .e)) (.n (.n .e (.j ⟨[iR 9 (.sl (.st 138)) 138],some [],[]⟩ false .e)) .e))))) Tryz.func71
theorem c133:FK ⟨133,[.str,.str,.int],[.str],fun x=>zBq x.1 x.2.1 x.2.2⟩:=mk (fcons c160 (fcons c130 anil)) (.e) Tryz.func133
theorem c72:FK ⟨72,[(.st 63)],[.str],fun x=>zB8 x⟩:=mk (fcons c108 (fcons c133 anil)) (.n .e (.n .e (.n .e (.n (.n .e (.j ⟨[iS 3 .int],some [],[]⟩ false .e)) .e)))) Tryz.func72
end Go.Proofs

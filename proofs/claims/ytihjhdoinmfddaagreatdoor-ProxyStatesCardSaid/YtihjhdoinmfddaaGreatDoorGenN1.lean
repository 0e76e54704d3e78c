/- A part. -/
import Derived.Test.YtihjhdoinmfddaaGreatDoorEng38
import Derived.Test.YtihjhdoinmfddaaGreatDoorPure5
import Derived.Test.YtihjhdoinmfddaaGreatDoorShelf
import Derived.Shelf.Spec.SlicesInsertGrow
import Derived.Shelf.Spec.SlicesInsert
import Derived.Test.YtihjhdoinmfddaaGreatDoorVr23
set_option linter.unusedVariables false
set_option linter.unusedSimpArgs false
set_option maxHeartbeats 4000000
set_option maxRecDepth 10000
namespace Go.Proofs
open Go.Eng Go.Eng.Pure
instance:Und Tryz.prog 3 (.int .i64):=⟨Tryz.underlying3⟩
instance:Und Tryz.prog 4 .bool:=⟨Tryz.underlying4⟩
instance:Und Tryz.prog 5 (.int .u8):=⟨Tryz.underlying5⟩
instance:Und Tryz.prog 9 .string:=⟨Tryz.underlying9⟩
instance:Und Tryz.prog 33 (.slice 9):=⟨Tryz.underlying33⟩
instance:Und Tryz.prog 61 (.slice 138):=⟨Tryz.underlying61⟩
instance:Und Tryz.prog 76 (.slice 278):=⟨Tryz.underlying76⟩
instance:Und Tryz.prog 77 (.slice 87):=⟨Tryz.underlying77⟩
instance:Und Tryz.prog 85 (.slice 33):=⟨Tryz.underlying85⟩
instance:Und Tryz.prog 266 (.slice 5):=⟨Tryz.underlying266⟩
instance:Und Tryz.prog 270 (.pointer 272):=⟨Tryz.underlying270⟩
instance:Und Tryz.prog 321 (.pointer 5):=⟨Tryz.underlying321⟩
instance:Und Tryz.prog 323 (.slice 3):=⟨Tryz.underlying323⟩
instance:Und Tryz.prog 375 (.int .i64):=⟨Tryz.underlying375⟩
instance:Und Tryz.prog 403 (.slice 407):=⟨Tryz.underlying403⟩
structure Tryz.Gl (w:World):Prop where
 pow10:Lib.TabIs Tryz.prog w "internal/strconv.uint64pow10" .u64 Lib.pow10Tab
theorem Tryz.Gl.post {b w:World} {c H:Hp} (h:Tryz.Gl b) (p:Post b c w H):Tryz.Gl w :=
 ⟨zWD (by kernel_rfl:Tryz.prog.globalNamed "internal/strconv.uint64pow10"=some 5) h.pow10 p⟩
theorem el33:Elem Tryz.prog 33 9 1:=zFg kr
end Go.Proofs
namespace Go.Proofs
open Go Go.Eng Go.VI Go.Eng.Pure
def errSe:Nat→Bool
 | 0=>true | 2=>true | 3=>true
 | _=>false
def zLF:Nat→Str
 | 0=>[97,32,114,101,113,117,101,115,116,32,116,104,97,116,32,105,115,32,110,111,116,32,112,101,114,109,105,116,116,101,100]
 | 2=>[110,111,116,32,116,104,101,32,102,111,114,109,32,116,104,97,116,32,105,115,32,101,120,112,101,99,116,101,100]
 | 3=>[97,110,111,116,104,101,114,32,118,101,114,115,105,111,110]
 | _=>[]
structure GlS (w:World):Prop where
 gl:Tryz.Gl w
 se:∀ g,errSe g=true→Sent w g 437 (zLF g)
def UX:List SX:=[⟨23,GConfig,inferInstance⟩,⟨37,GOutput,inferInstance⟩,⟨41,Gvariantproxykeep_Step,inferInstance⟩,⟨63,GRequest,inferInstance⟩,⟨65,GURI,inferInstance⟩,⟨79,GTable,inferInstance⟩,⟨83,GDecision,inferInstance⟩,⟨87,GEntry,inferInstance⟩,⟨89,Gproxy_exchange,inferInstance⟩,⟨92,GResponse,inferInstance⟩,⟨125,GControl,inferInstance⟩,⟨138,GField,inferInstance⟩,⟨142,GETag,inferInstance⟩,⟨232,Gcachecontrol_directive,inferInstance⟩,⟨278,GAxis,inferInstance⟩,⟨381,GPref,inferInstance⟩,⟨407,GParam,inferInstance⟩,⟨419,GMediaType,inferInstance⟩]
def UPs:List (SP UX):=[
 (mkSP ⟨23,GConfig,inferInstance⟩ [.str,.int,.int,.int,.boo,.boo] (fun x=>(x.fName,x.fBytes,x.fVariants,x.fTables,x.fStrict,x.fRefuse,())) (fun y=>⟨y.1,y.2.1,y.2.2.1,y.2.2.2.1,y.2.2.2.2.1,y.2.2.2.2.2.1⟩)),
 (mkSP ⟨37,GOutput,inferInstance⟩ [.str,.str] (fun x=>(x.fToClient,x.fToOrigin,())) (fun y=>⟨y.1,y.2.1⟩)),
 (mkSP ⟨41,Gvariantproxykeep_Step,inferInstance⟩ [.int,.int,.str] (fun x=>(x.fKind,x.fN,x.fText,())) (fun y=>⟨y.1,y.2.1,y.2.2.1⟩)),
 (mkSP ⟨63,GRequest,inferInstance⟩ [.str,.str,.int,(.sl (.st 138)),.str] (fun x=>(x.fMethod,x.fTarget,x.fMinor,x.fFields,x.fBody,())) (fun y=>⟨y.1,y.2.1,y.2.2.1,y.2.2.2.1,y.2.2.2.2.1⟩)),
 (mkSP ⟨65,GURI,inferInstance⟩ [.str,.int,.str,.str,.boo] (fun x=>(x.fHost,x.fPort,x.fPath,x.fQuery,x.fHasQuery,())) (fun y=>⟨y.1,y.2.1,y.2.2.1,y.2.2.2.1,y.2.2.2.2.1⟩)),
 (mkSP ⟨79,GTable,inferInstance⟩ [(.sl (.st 278)),(.sl (.st 87))] (fun x=>(x.fAxes,x.fEntries,())) (fun y=>⟨y.1,y.2.1⟩)),
 (mkSP ⟨83,GDecision,inferInstance⟩ [.int,.int] (fun x=>(x.fKind,x.fIndex,())) (fun y=>⟨y.1,y.2.1⟩)),
 (mkSP ⟨87,GEntry,inferInstance⟩ [(.sl (.sl .str)),(.sl .str),(.sl .str),.str,(.sl (.st 138)),.str,.int,.int] (fun x=>(x.fKeys,x.fVary,x.fSnapshot,x.fReason,x.fFields,x.fBody,x.fRequested,x.fReceived,())) (fun y=>⟨y.1,y.2.1,y.2.2.1,y.2.2.2.1,y.2.2.2.2.1,y.2.2.2.2.2.1,y.2.2.2.2.2.2.1,y.2.2.2.2.2.2.2.1⟩)),
 (mkSP ⟨89,Gproxy_exchange,inferInstance⟩ [.str,.str,.int,(.sl (.st 138)),.str,.str,.int,.str,.str,.boo,.str,.int,.boo,.int,(.sl (.sl .str)),(.sl .str),(.sl .str),.str,(.sl (.st 138)),.str,.int,.int] (fun x=>(x.fq.fMethod,x.fq.fTarget,x.fq.fMinor,x.fq.fFields,x.fq.fBody,x.fu.fHost,x.fu.fPort,x.fu.fPath,x.fu.fQuery,x.fu.fHasQuery,x.fkey,x.fsent,x.fvalidated,x.findex,x.fentry.fKeys,x.fentry.fVary,x.fentry.fSnapshot,x.fentry.fReason,x.fentry.fFields,x.fentry.fBody,x.fentry.fRequested,x.fentry.fReceived,())) (fun y=>⟨⟨y.1,y.2.1,y.2.2.1,y.2.2.2.1,y.2.2.2.2.1⟩,⟨y.2.2.2.2.2.1,y.2.2.2.2.2.2.1,y.2.2.2.2.2.2.2.1,y.2.2.2.2.2.2.2.2.1,y.2.2.2.2.2.2.2.2.2.1⟩,y.2.2.2.2.2.2.2.2.2.2.1,y.2.2.2.2.2.2.2.2.2.2.2.1,y.2.2.2.2.2.2.2.2.2.2.2.2.1,y.2.2.2.2.2.2.2.2.2.2.2.2.2.1,⟨y.2.2.2.2.2.2.2.2.2.2.2.2.2.2.1,y.2.2.2.2.2.2.2.2.2.2.2.2.2.2.2.1,y.2.2.2.2.2.2.2.2.2.2.2.2.2.2.2.2.1,y.2.2.2.2.2.2.2.2.2.2.2.2.2.2.2.2.2.1,y.2.2.2.2.2.2.2.2.2.2.2.2.2.2.2.2.2.2.1,y.2.2.2.2.2.2.2.2.2.2.2.2.2.2.2.2.2.2.2.1,y.2.2.2.2.2.2.2.2.2.2.2.2.2.2.2.2.2.2.2.2.1,y.2.2.2.2.2.2.2.2.2.2.2.2.2.2.2.2.2.2.2.2.2.1⟩⟩)),
 (mkSP ⟨92,GResponse,inferInstance⟩ [.int,.int,.str,(.sl (.st 138)),.str] (fun x=>(x.fMinor,x.fStatus,x.fReason,x.fFields,x.fBody,())) (fun y=>⟨y.1,y.2.1,y.2.2.1,y.2.2.2.1,y.2.2.2.2.1⟩)),
 (mkSP ⟨125,GControl,inferInstance⟩ [.boo,.boo,.boo,.boo,.boo,.boo,.boo,.int,.int,.int,.int] (fun x=>(x.fNoStore,x.fNoCache,x.fMustRevalidate,x.fProxyRevalidate,x.fPrivate,x.fPublic,x.fOnlyIfCached,x.fMaxAge,x.fSMaxAge,x.fMinFresh,x.fMaxStale,())) (fun y=>⟨y.1,y.2.1,y.2.2.1,y.2.2.2.1,y.2.2.2.2.1,y.2.2.2.2.2.1,y.2.2.2.2.2.2.1,y.2.2.2.2.2.2.2.1,y.2.2.2.2.2.2.2.2.1,y.2.2.2.2.2.2.2.2.2.1,y.2.2.2.2.2.2.2.2.2.2.1⟩)),
 (mkSP ⟨138,GField,inferInstance⟩ [.str,.str] (fun x=>(x.fName,x.fValue,())) (fun y=>⟨y.1,y.2.1⟩)),
 (mkSP ⟨142,GETag,inferInstance⟩ [.boo,.str] (fun x=>(x.fWeak,x.fTag,())) (fun y=>⟨y.1,y.2.1⟩)),
 (mkSP ⟨232,Gcachecontrol_directive,inferInstance⟩ [.int,.str] (fun x=>(x.fform,x.fvalue,())) (fun y=>⟨y.1,y.2.1⟩)),
 (mkSP ⟨278,GAxis,inferInstance⟩ [.str,(.sl .str)] (fun x=>(x.fName,x.fValues,())) (fun y=>⟨y.1,y.2.1⟩)),
 (mkSP ⟨381,GPref,inferInstance⟩ [.str,.int] (fun x=>(x.fRange,x.fQ,())) (fun y=>⟨y.1,y.2.1⟩)),
 (mkSP ⟨407,GParam,inferInstance⟩ [.str,.str] (fun x=>(x.fName,x.fValue,())) (fun y=>⟨y.1,y.2.1⟩)),
 (mkSP ⟨419,GMediaType,inferInstance⟩ [.str,.str,(.sl (.st 407))] (fun x=>(x.fType,x.fSub,x.fParams,())) (fun y=>⟨y.1,y.2.1,y.2.2.1⟩))]
def glX:Nat→Option (List Value):=fun g=>match g with | 1=>some [.iface 184 (.agg #[.pointer (some ⟨10,67,none⟩)])] | _=>none
theorem GlS.pst {b w:World} {c H:Hp} (h:GlS b) (p:Post b c w H):GlS w:=⟨h.gl.post p,fun g e=>(h.se g e).post p⟩
noncomputable def UU:UV:={ mkU UX UPs rfl glX GlS GlS.pst with po:=fun T=>Nat.beq T 89,se:=errSe }
abbrev FK (F:FE UU):=FE.ok (U:=UU) Tryz.prog F
structure GlX (w:World) (H:Hp):Prop where
 gl:Tryz.Gl w
 gs:GlS w
 ok:GlOk UU H
end Go.Proofs
namespace Go.Proofs
open Go.Eng Go.Eng.Pure
theorem zer79:zer Tryz.prog 79=some [(.slice none 0 0),(.slice none 0 0)]:=kr
theorem zX3:fld Tryz.prog 79 0=some 0:=kr
instance:Fld Tryz.prog 79 0 0:=⟨zX3⟩
theorem lay76:lay Tryz.prog 76=some (false,1):=kr
instance:Lay Tryz.prog 76 (false,1):=⟨lay76⟩
theorem zFk {d:World} {b:Hp} (hw:Holds d b) (hG:GlX d b) (f:List Str) {j:Value} (k:Sl b j f) {r:List Str} (h:zAP f=some r) :
  Con Tryz.prog 31 [j] d b (fun H' v=>Sl H' v r):=by
 unfold zAP at h;refine CM 8 Tryz.func31 hw fun S=>?_
 refine Ws<|Wg<|A<|We<|Ws<|Ws<|Wg<|M ?_;rcases Sl.nilE k with ⟨c,hv,hl⟩ | ⟨a,n,c,hv⟩
 ·refine WL.wz (R.eqNil hv rfl Tryz.underlying33)<|We<|CT rfl<|Ws<|Wg<|A<|We ?_
  refine WP.ret (Out.one rfl S rfl ?_);subst hl;obtain rfl:=oi h;exact Sl.nil
 refine WL.wz (R.eqNil hv rfl Tryz.underlying33)<|We<|CF rfl<|Wk<|Ws<|Wg<|W.bslice (α:=Str) (n:=0) (ps:=[]) [] [] S el33 rfl rfl rfl (by decide) (fun i v x h=>by cases h) ?_;intro u t z l o S;have Rp:=k.up l;refine M<|W.app (α:=Str) (i:=0) S el33 rfl rfl rfl o Rp h ?_;intro v2 w2 H2 ad p S;refine A<|We ?_;refine WP.ret (Out.one rfl S rfl ?_);exact p
end Go.Proofs
namespace Go.Proofs
open Go Go.Eng Go.VI Go.Eng.Pure
theorem c31:FK ⟨31,[(.sl .str)],[(.sl .str)],fun x=>zAP x⟩:=@fun w H az x y hw hg b hT h=>by
 obtain ⟨d,rfl,c⟩:=hT;exact (zFk hw ⟨b.gl,b,hg⟩ x c h).mono (fun _ v K0=>⟨[v],rfl,v,rfl,K0⟩)
theorem c109:FK ⟨109,[(.sl (.st 278))],[(.sl (.st 278))],fun x=>zGA x⟩:=mk (fcons c31 anil) (.n .e (.n .e (.n (.n .e (.lp ⟨[iR 3 (.sl (.st 278)) 278,iS 8 .int],some [],[]⟩ (some ⟨[iR 3 (.sl (.st 278)) 278],some [],[]⟩) false .e)) .e))) Tryz.func109 [(5,8,[.t 0,.t 1,.t 2,.t 3,.t 4,.l 5 true,.t 6,.l 7 true,.l 8 false,.l 9 false])]
theorem zKK {c:World} {b:Hp} (hw:Holds c b) (hG:GlX c b) (d:(List GAxis)) {f:Value} (i:Sl b f d) {r:(List GAxis)} (h:zGA d=some r) :
  Con Tryz.prog 109 [f] c b (fun H' v=>Sl H' v r):=by
 refine (c109 (xs:=(d)) (y:=r) hw hG.ok hG.gs ⟨_,rfl,i⟩ h).mono ?_;rintro _ v ⟨_,rfl,D⟩;obtain ⟨j,rfl,K0⟩:=D;exact K0
theorem GlX.pstX {b w:World} {c H:Hp} (h:GlX b c) (p:Post b c w H):GlX w H:=⟨h.gl.post p,h.gs.pst p,h.ok.mono p.le⟩
theorem GlX.le {w:World} {H b:Hp} (h:GlX w H) (l:H.le b):GlX w b:=⟨h.gl,h.gs,h.ok.mono l⟩
end Go.Proofs
namespace Go.Proofs
open Go.Eng Go.Eng.Pure
theorem bp79:zHg Tryz.prog 79=some [(0,1),(1,1)]:=kr
theorem lay79:lay Tryz.prog 79=some (true,2):=kr
instance:Lay Tryz.prog 79 (true,2):=⟨lay79⟩
theorem zGY:fld Tryz.prog 79 1=some 1:=kr
instance:Fld Tryz.prog 79 1 1:=⟨zGY⟩
theorem lay77:lay Tryz.prog 77=some (false,1):=kr
instance:Lay Tryz.prog 77 (false,1):=⟨lay77⟩
theorem el77:Elem Tryz.prog 77 87 8:=zFg kr
theorem lay87:lay Tryz.prog 87=some (true,8):=kr
instance:Lay Tryz.prog 87 (true,8):=⟨lay87⟩
theorem zer87:zer Tryz.prog 87=some [(.slice none 0 0),(.slice none 0 0),(.slice none 0 0),(str []),(.slice none 0 0),(str []),(int 0),(int 0)]:=kr
theorem el61:Elem Tryz.prog 61 138 2:=zFg kr
theorem zD6 {d:World} {b:Hp} (hw:Holds d b) (hG:GlX d b) (f:List GField) {j:Value} (k:Sl b j f) {r:List GField} (h:zAU f=some r) :
  Con Tryz.prog 176 [j] d b (fun H' v=>Sl H' v r):=by
 unfold zAU at h;refine CM 8 Tryz.func176 hw fun S=>?_
 refine Ws<|Wg<|A<|We<|Ws<|Ws<|Wg<|M ?_;rcases Sl.nilE k with ⟨c,hv,hl⟩ | ⟨a,n,c,hv⟩
 ·refine WL.wz (R.eqNil hv rfl Tryz.underlying61)<|We<|CT rfl<|Ws<|Wg<|A<|We ?_
  refine WP.ret (Out.one rfl S rfl ?_);subst hl;obtain rfl:=oi h;exact Sl.nil
 refine WL.wz (R.eqNil hv rfl Tryz.underlying61)<|We<|CF rfl<|Wk<|Ws<|Wg<|W.bslice (α:=GField) (n:=0) (ps:=[]) [] [] S el61 rfl rfl rfl (by decide) (fun i v x h=>by cases h) ?_;intro u t z l o S;have Rp:=k.up l;refine M<|W.app (α:=GField) (i:=0) S el61 rfl rfl rfl o Rp h ?_;intro v2 w2 H2 ad p S;refine A<|We ?_;refine WP.ret (Out.one rfl S rfl ?_);exact p
end Go.Proofs
namespace Go.Proofs
open Go Go.Eng Go.VI Go.Eng.Pure
theorem c176:FK ⟨176,[(.sl (.st 138))],[(.sl (.st 138))],fun x=>zAU x⟩:=@fun w H az x y hw hg b hT h=>by
 obtain ⟨d,rfl,c⟩:=hT;exact (zD6 hw ⟨b.gl,b,hg⟩ x c h).mono (fun _ v K0=>⟨[v],rfl,v,rfl,K0⟩)
theorem c110:FK ⟨110,[(.st 87)],[(.st 87)],fun x=>zDC x⟩:=mk (fcons c176 (fcons c31 anil)) (.n .e (.n .e (.n .e (.n (.n .e (.lp ⟨[iS 11 .int,⟨.cs 1 0,(.sl (.sl .str)),some 33⟩,iC 1 1 (.sl .str),iC 1 2 (.sl .str),iC 1 3 .str,iC 1 4 (.sl (.st 138)),iC 1 5 .str,iC 1 6 .int,iC 1 7 .int],some [],[]⟩ (some ⟨[⟨.cs 1 0,(.sl (.sl .str)),some 33⟩,iC 1 1 (.sl .str),iC 1 2 (.sl .str),iC 1 3 .str,iC 1 4 (.sl (.st 138)),iC 1 5 .str,iC 1 6 .int,iC 1 7 .int],some [],[]⟩) false .e)) .e)))) Tryz.func110 [(6,5,[.t 0,.t 1,.t 2,.l 3 true,.l 4 true,.l 5 false,.l 6 false,.l 7 false]),(8,10,[.t 0,.t 1,.t 3,.t 4,.t 6,.t 7,.l 2 true,.t 9,.l 5 true,.l 8 true,.l 10 false,.l 11 false,.l 12 false,.l 13 false,.l 14 false])]
theorem zCv {d:World} {c:Hp} (hw:Holds d c) (hG:GlX d c) (b:GEntry) {f:Value} {i:Value} {j:Value} {k:Value} (u:Sl c f b.fKeys) (x:Sl c i b.fVary) (z:Sl c j b.fSnapshot) (aa:Sl c k b.fFields) {r:GEntry} (h:zDC b=some r) :
  Con Tryz.prog 110 [(agg [f,i,j,(str b.fReason),k,(str b.fBody),(int b.fRequested),(int b.fReceived)])] d c (fun H' v=>∃ l o p t:Value,v=(agg [l,o,p,(str r.fReason),t,(str r.fBody),(int r.fRequested),(int r.fReceived)])∧Sl H' l r.fKeys∧Sl H' o r.fVary∧Sl H' p r.fSnapshot∧Sl H' t r.fFields):=by
 refine (c110 (xs:=(b)) (y:=r) hw hG.ok hG.gs ⟨_,rfl,⟨_,rfl,⟨_,_,_,_,rfl,u,x,z,aa⟩⟩⟩ h).mono ?_;rintro _ v ⟨_,rfl,D⟩;obtain ⟨v0,rfl,K0⟩:=D;obtain ⟨_,rfl,⟨_,_,_,_,rfl,K0_0,K0_1,K0_2,K0_3⟩⟩:=K0;exact ⟨_,_,_,_,rfl,K0_0,K0_1,K0_2,K0_3⟩
end Go.Proofs
namespace Go.Proofs
open Go.Eng Go.Eng.Pure
theorem zGM {w0 ws:World} {H0 Hs:Hp} {L2:List Ent} (hG:GlX w0 H0) (an:GTable) {a8:Value} {ao:Value} (S:St w0 H0 ws Hs (L2)) (cj:Sl Hs a8 an.fAxes) (b:Sl Hs ao an.fEntries) {r:GTable} (h:zBW an=some r) :
  ConS Tryz.prog 59 [(agg [a8,ao])] w0 H0 ws Hs L2 (fun H' v L'=>∃ u1 u2:Value,∃ e1:Ent,L'=[e1]∧v=(agg [u1,u2])∧Sl H' u1 r.fAxes∧MR (α:=GEntry) H' e1 87 u2 r.fEntries):=by
 refine ConS.mk (N:=26) Tryz.func59 rfl rfl kr rfl<|Ws<|Wg ?_;refine W.box [a8,ao] S rfl rfl ?_;intro b1 w2 S;refine W.alloc [(.slice none 0 0),(.slice none 0 0)] S zer79 ?_;intro b3 w4 S;refine We<|Ws<|Wg<|Fb ?_;refine Lo 1 S<|B h fun r5 cl h=>W.call S rfl (zKK S.holds (hG.pstX S.post) an.fAxes cj cl) ?_
 rintro v6 w7 H8 b7 S br;have b:=b.up b7;refine WL.wz (R.build [(0,v6)] [v6,(.slice none 0 0)] bp79 zer79 rfl (by obtain ⟨_,_,rfl,_⟩:=br; rfl)) ?_;refine W.alloc [(.slice none 0 0),(.slice none 0 0)] S zer79 ?_;intro a2 cx S;refine W.store (i:=0) [v6,(.slice none 0 0)] S rfl rfl rfl lay79 rfl (AllOne.all (l:=[v6,(.slice none 0 0)]) (.cons (Sl.oneC br) (.cons rfl .nil))) (nL kr) rfl ?_;intro cy S;refine We<|Ws<|Ws<|Wg<|Fb ?_;refine Lo 2 S<|Nq b<|M<|We ?_;obtain ⟨a9,bs⟩:∃ v:Value,v=.slice none 0 0:=⟨_,rfl⟩;have cm:MR (α:=GEntry) H8 (.row a9 87 8 0) 87 a9 []:=by rw [bs]; exact MR.nil
 replace S:=(show ∀ {w:World},St w0 H0 w H8 (.box a2 79 [v6,(.slice none 0 0)] :: .box b3 79 [(.slice none 0 0),(.slice none 0 0)] :: .box b1 79 [a8,ao] :: L2)→St w0 H0 w H8 (.box a2 79 [v6,a9] :: .box b3 79 [(.slice none 0 0),(.slice none 0 0)] :: .box b1 79 [a8,ao] :: L2) from fun S=>by rw [bs]; exact S) S;replace S:=St.addNilV bs S 87 8;refine B h fun bt cn h=>WP.cut (fun f w=>match bt with | (b8,b9)=>∃ (ba:Hp) (aq:Value) (au:Value) (bo:Ent),f 2=(ptr b3 0)∧f 3=(ptr a2 0)∧Sl ba aq b8∧MR (α:=GEntry) ba bo 87 au b9∧Hp.le Hs ba∧St w0 H0 w ba (bo :: .box a2 79 [aq,au] :: .box b3 79 [(.slice none 0 0),(.slice none 0 0)] :: L2)) ?_ ?_
 ·refine Wb ?_
  refine WP.loopM (zFM an) (fun s f w=>match s with | (ca,cb,cc)=>∃ (av:Hp) (x:Value) (bp:Value) (bq:Ent),f 2=(ptr b3 0)∧f 3=(ptr a2 0)∧f 11=ao∧f 12=(int (an.fEntries.length:Int))∧f 13=(int ca)∧Sl av ao an.fEntries∧Sl av x cb∧MR (α:=GEntry) av bq 87 bp cc∧Hp.le Hs av∧St w0 H0 w av (bq :: .box a2 79 [x,bp] :: .box b3 79 [(.slice none 0 0),(.slice none 0 0)] :: L2)) (0,r5,([]:List GEntry)) bt cn ?_ ?_
  ·exact ⟨H8,v6,a9,(.row a9 87 8 0),rfl,rfl,rfl,rfl,rfl,b,br,cm,b7,(S.pt 4 [0,1,2])⟩
  intro s f w hI cz c co;obtain ⟨ca,cb,cc⟩:=s;obtain ⟨av,x,bp,bq,bb,ak,bc,bd,a3,b,o,p,be,S⟩:=hI;refine Ws<|Wg<|La' a3 bd<|We<|Ws ?_;rcases condE c with ⟨bu,c⟩ | ⟨bu,c⟩
  ·refine CT bu<|Wk<|Ws<|Wb<|Ws<|Wg<|B c fun d cp c=>W.idx (α:=GEntry) b bc a3 el77 cp ?_
   rintro c0 _ cq ⟨bf,bg,bh,bi,rfl,z,aa,ab,ac⟩;refine WL.wz (R.loadHN (vs:=[bf,bg,bh,(str d.fReason),bi,(str d.fBody),(int d.fRequested),(int d.fReceived)]) S rfl cq lay87 rfl rfl) ?_;refine W.alloc [(.slice none 0 0),(.slice none 0 0),(.slice none 0 0),(str []),(.slice none 0 0),(str []),(int 0),(int 0)] S zer87 ?_;intro c1 c2 S;refine W.store (i:=0) [bf,bg,bh,(str d.fReason),bi,(str d.fBody),(int d.fRequested),(int d.fReceived)] S rfl rfl rfl lay87 rfl (AllOne.all (l:=[bf,bg,bh,(str d.fReason),bi,(str d.fBody),(int d.fRequested),(int d.fReceived)]) (.cons (Sl.oneC z) (.cons (Sl.oneC aa) (.cons (Sl.oneC ab) (.cons rfl (.cons (Sl.oneC ac) (.cons rfl (.cons rfl (.cons rfl .nil))))))))) (nL kr) rfl ?_;intro c3 S;refine We<|WP.draw kr 8 rfl (bm 8 0) rfl ?_;have S:=S.drew;refine At_ 0 8 1 rfl (fun _=>(R.fieldB ak zGY)) ?_;refine WA.two (i:=1) (j:=2) (bm 8 3) (bm 8 5) rfl rfl kr rfl rfl ?_ ?_
   ·refine Lo 2 S<|We<|WA.one (i:=2) (bm 8 7) rfl kr rfl ?_
    refine WL.wz (R.loadBN (i:=0) (vs:=[bf,bg,bh,(str d.fReason),bi,(str d.fBody),(int d.fRequested),(int d.fReceived)]) S rfl rfl lay87 rfl rfl)<|We<|WA.one (i:=3) (bm 8 15) rfl kr rfl<|B c fun k bj c=>W.call S rfl (zCv S.holds (hG.pstX S.post) d z aa ab ac bj) ?_
    rintro cd ce cf u S ⟨a4,a5,a6,a7,rfl,ad,ae,af,ah⟩;have ⟨b,z,aa,ab,ac⟩:=U5 u b z aa ab ac;have p:=MR.mono p u;have o:=o.up u;refine We<|WA.one (i:=4) (bm 8 31) rfl kr rfl<|W.bslice (α:=GEntry) [(agg [a4,a5,a6,(str k.fReason),a7,(str k.fBody),(int k.fRequested),(int k.fReceived)])] ([k]:List GEntry) S el77 rfl rfl rfl (by decide) (Go.Eng.encS ⟨rfl,_,_,_,_,rfl,ad,ae,af,ah⟩ enc0) ?_;intro bv bw aw t ax S;have ⟨b,z,aa,ab,ac⟩:=U5 t b z aa ab ac;have p:=MR.mono p t;have ⟨ad,ae,af,ah,o⟩:=U5 t ad ae af ah o;refine We<|WA.one (i:=5) (bm 8 63) rfl kr rfl<|B c fun bx ay c=>W.appM (α:=GEntry) (i:=2) S el77 rfl rfl rfl p ax ay ?_
    intro ai az bz aj S;refine We ?_;refine At_ 6 8 127 rfl (fun _=>(R.fieldB ak zGY))<|WA.one (i:=7) (bm 8 255) rfl kr rfl ?_;refine W.storeMR (α:=GEntry) (i:=3) [x,ai] S aj rfl rfl rfl lay77 (nL kr) rfl ?_;intro b0 S;refine We<|WA.done kr<|Wg<|Lg' a3 rfl<|M<|We ?_;obtain rfl:=oi c;exact ⟨rfl,⟨aw,x,ai,(az),bb,ak,bc,bd,rfl,b,o,aj,((be.trans u).trans t),(S.pt 5 [2,3,4])⟩⟩
   refine WL.wz (R.loadBN (i:=0) (vs:=[bf,bg,bh,(str d.fReason),bi,(str d.fBody),(int d.fRequested),(int d.fReceived)]) S rfl rfl lay87 rfl rfl)<|We ?_;refine WA.two (i:=1) (j:=3) (bm 8 7) (bm 8 13) rfl rfl kr rfl rfl ?_ ?_
   ·refine Lo 2 S<|We<|WA.one (i:=3) (bm 8 15) rfl kr rfl<|B c fun k bj c=>W.call S rfl (zCv S.holds (hG.pstX S.post) d z aa ab ac bj) ?_
    rintro cd ce cf u S ⟨a4,a5,a6,a7,rfl,ad,ae,af,ah⟩;have ⟨b,z,aa,ab,ac⟩:=U5 u b z aa ab ac;have p:=MR.mono p u;have o:=o.up u;refine We<|WA.one (i:=4) (bm 8 31) rfl kr rfl<|W.bslice (α:=GEntry) [(agg [a4,a5,a6,(str k.fReason),a7,(str k.fBody),(int k.fRequested),(int k.fReceived)])] ([k]:List GEntry) S el77 rfl rfl rfl (by decide) (Go.Eng.encS ⟨rfl,_,_,_,_,rfl,ad,ae,af,ah⟩ enc0) ?_;intro bv bw aw t ax S;have ⟨b,z,aa,ab,ac⟩:=U5 t b z aa ab ac;have p:=MR.mono p t;have ⟨ad,ae,af,ah,o⟩:=U5 t ad ae af ah o;refine We<|WA.one (i:=5) (bm 8 63) rfl kr rfl<|B c fun bx ay c=>W.appM (α:=GEntry) (i:=2) S el77 rfl rfl rfl p ax ay ?_
    intro ai az bz aj S;refine We ?_;refine At_ 6 8 127 rfl (fun _=>(R.fieldB ak zGY))<|WA.one (i:=7) (bm 8 255) rfl kr rfl ?_;refine W.storeMR (α:=GEntry) (i:=3) [x,ai] S aj rfl rfl rfl lay77 (nL kr) rfl ?_;intro b0 S;refine We<|WA.done kr<|Wg<|Lg' a3 rfl<|M<|We ?_;obtain rfl:=oi c;exact ⟨rfl,⟨aw,x,ai,(az),bb,ak,bc,bd,rfl,b,o,aj,((be.trans u).trans t),(S.pt 5 [2,3,4])⟩⟩
   refine B c fun k bj c=>W.call S rfl (zCv S.holds (hG.pstX S.post) d z aa ab ac bj) ?_
   rintro cd ce cf u S ⟨a4,a5,a6,a7,rfl,ad,ae,af,ah⟩;have ⟨b,o⟩:=U2 u b o;have p:=MR.mono p u;refine We ?_;refine WA.two (i:=1) (j:=4) (bm 8 15) (bm 8 29) rfl rfl kr rfl rfl ?_ ?_
   ·refine Lo 2 S<|We<|WA.one (i:=4) (bm 8 31) rfl kr rfl<|W.bslice (α:=GEntry) [(agg [a4,a5,a6,(str k.fReason),a7,(str k.fBody),(int k.fRequested),(int k.fReceived)])] ([k]:List GEntry) S el77 rfl rfl rfl (by decide) (Go.Eng.encS ⟨rfl,_,_,_,_,rfl,ad,ae,af,ah⟩ enc0) ?_
    intro bv bw aw t ax S;have ⟨b,ad,ae,af,ah⟩:=U5 t b ad ae af ah;have p:=MR.mono p t;have o:=o.up t;refine We<|WA.one (i:=5) (bm 8 63) rfl kr rfl<|B c fun bx ay c=>W.appM (α:=GEntry) (i:=2) S el77 rfl rfl rfl p ax ay ?_
    intro ai az bz aj S;refine We ?_;refine At_ 6 8 127 rfl (fun _=>(R.fieldB ak zGY))<|WA.one (i:=7) (bm 8 255) rfl kr rfl ?_;refine W.storeMR (α:=GEntry) (i:=3) [x,ai] S aj rfl rfl rfl lay77 (nL kr) rfl ?_;intro b0 S;refine We<|WA.done kr<|Wg<|Lg' a3 rfl<|M<|We ?_;obtain rfl:=oi c;exact ⟨rfl,⟨aw,x,ai,(az),bb,ak,bc,bd,rfl,b,o,aj,((be.trans u).trans t),(S.pt 5 [2,3,4])⟩⟩
   refine W.bslice (α:=GEntry) [(agg [a4,a5,a6,(str k.fReason),a7,(str k.fBody),(int k.fRequested),(int k.fReceived)])] ([k]:List GEntry) S el77 rfl rfl rfl (by decide) (Go.Eng.encS ⟨rfl,_,_,_,_,rfl,ad,ae,af,ah⟩ enc0) ?_;intro bv bw aw t ax S;have ⟨b,o⟩:=U2 t b o;have p:=MR.mono p t;refine We<|WA.one (i:=1) (bm 8 31) rfl kr rfl ?_;refine Lo 3 S<|We<|WA.one (i:=5) (bm 8 63) rfl kr rfl<|B c fun bx ay c=>W.appM (α:=GEntry) (i:=2) S el77 rfl rfl rfl p ax ay ?_
   intro ai az bz aj S;refine We ?_;refine At_ 6 8 127 rfl (fun _=>(R.fieldB ak zGY))<|WA.one (i:=7) (bm 8 255) rfl kr rfl ?_;refine W.storeMR (α:=GEntry) (i:=3) [x,ai] S aj rfl rfl rfl lay77 (nL kr) rfl ?_;intro b0 S;refine We<|WA.done kr<|Wg<|Lg' a3 rfl<|M<|We ?_;obtain rfl:=oi c;exact ⟨rfl,⟨aw,x,ai,(az),bb,ak,bc,bd,rfl,b,o,aj,((be.trans u).trans t),(S.pt 5 [2,3,4])⟩⟩
  refine CF bu<|Wx ?_;obtain rfl:=oi c;obtain rfl:=co;exact ⟨av,x,bp,(bq),bb,ak,o,p,be,S⟩
 intro f w hM;obtain ⟨b8,b9⟩:=bt;obtain ⟨ba,aq,au,bo,cg,cr,ch,ci,ct,S⟩:=hM;refine Ws<|Wg ?_;refine WL.wz (R.loadBN (i:=1) (vs:=[aq,au]) S cr rfl lay79 rfl rfl) ?_;refine W.store (i:=2) [aq,au] S cg rfl rfl lay79 rfl (AllOne.all (l:=[aq,au]) (.cons (Sl.oneC ch) (.cons (MR.oneC ci) .nil))) (nL kr) rfl ?_;intro c6 S;refine We ?_;obtain rfl:=oi h;refine WP.ret (OutS.one (L':=[bo]) rfl ct (S.pt 3 [0]) (Res.cellB (i:=2) (cs:=[aq,au]) S cg rfl lay79 rfl rfl) ?_);exact ⟨_,_,_,rfl,rfl,ch,ci⟩
theorem lay9:lay Tryz.prog 9=some (false,1):=kr
instance:Lay Tryz.prog 9 (false,1):=⟨lay9⟩
theorem zCF {i:World} {c:Hp} (hw:Holds i c) (hG:GlX i c) (j:(List Str)) (o:(Str→Option Bool)) {k:Value} {kp_f:FuncId} {cp_f:List Value} (d:Sl c k j) (Fp_f:∀ {w:World} {H:Hp},c.le H→Holds w H→GlX w H→∀ (z:Str) (rr:Bool),o z=some rr→Con Tryz.prog kp_f ([(str z)]++cp_f) w H (fun H' v=>v=(boo rr))) {r:Int} (h:zAK j o=some r) :
  Ci Tryz.prog 182 [k,(.func (.func kp_f) #[] cp_f.toArray)] i c r:=by
 refine CM 19 Tryz.func182 hw fun S=>?_
 refine Ws<|Wg<|A<|We<|Ws<|Ws<|Wg<|M<|Nq d<|M<|We<|B h fun p ah h=>WP.cut (fun f w=>match p with | .inl _=>∃ (H7:Hp),St i c w H7 [] | .inr _=>False) ?_ ?_
 ·refine Wb ?_
  refine WP.loopM (zAE j o) (fun s f w=>match s with | ab=>∃ (l:Hp),f 0=k∧f 1=(.func (.func kp_f) #[] cp_f.toArray)∧f 7=(int (j.length:Int))∧f 8=(int ab)∧Sl l k j∧St i c w l []) 0 p ah ?_ ?_
  ·exact ⟨c,rfl,rfl,rfl,rfl,d,S⟩
  intro ab f w hI y8 b ac;obtain ⟨l,h2,h3,h4,t,d,S⟩:=hI;refine Ws<|Wg<|La' t h4<|We<|Ws ?_;rcases condE b with ⟨u,b⟩ | ⟨u,b⟩
  ·refine CT u<|Wk<|Ws<|Wb<|Ws<|Wg<|M' t<|A<|We<|Ws<|Wg<|M' h3 ?_
   refine M' h2<|M<|B b fun ai aj b=>W.idx (α:=Str) d rfl rfl el33 aj ?_
   rintro ap _ ak rfl;refine Lq S ak<|B b fun aq al b=>W.callv S rfl rfl (Fp_f (S.post.le) S.holds (hG.pstX S.post) ai _ al) ?_
   rintro au av am an S rfl;have d:=d.up an;refine We ?_;rcases condE b with ⟨x,b⟩ | ⟨x,b⟩
   ·refine CT x<|Ws<|Wg<|M<|A<|We ?_
    obtain rfl:=oi b;obtain rfl:=ac;exact WP.ret (Ri h S)
   refine CF x<|Wk<|Wg<|Lg' t rfl<|M<|We ?_;obtain rfl:=oi b;exact ⟨rfl,⟨am,h2,h3,h4,rfl,d,S⟩⟩
  refine CF u<|Wx ?_;obtain rfl:=oi b;obtain rfl:=ac;exact ⟨l,S⟩
 intro f w hM;rcases p with _ | e
 ·obtain ⟨H7,S⟩:=hM
  refine Ws<|Wg<|A<|We ?_;exact WP.ret (Ri h S)
 exact hM.elim
theorem zer9:zer Tryz.prog 9=some [(str [])]:=kr
theorem zD4 {k ws:World} {l Hs:Hp} {p:List Ent} (hG:GlX k l) (b:(List Str)) (t:(Str→Option Bool)) {v:Value} {en:Ent} {kd:FuncId} {cd:List Value} {jb bb0:Nat} {Tb:TypeId} {csb:List Value} (S:St k l ws Hs (en :: p)) (hj:p[jb]?=some (.box bb0 Tb csb)) (hne:csb≠[]) (RM:MR (α:=Str) Hs en 9 v b)
  (F:∀ {w:World} {H:Hp},Hs.le H→Holds w H→At H ⟨bb0,0,none⟩ csb→GlX w H→∀ (x0:Str) (rr:Bool),t x0=some rr→Con Tryz.prog kd ([(str x0)]++cd) w H (fun H' v=>v=(boo rr)))
  {r:List Str} (h:zA3 b t=some r) :
  ConS Tryz.prog 124 [v,(.func (.func kd) #[] cd.toArray)] k l ws Hs p (fun H' v' L'=>∃ en',L'=[en']∧MR (α:=Str) H' en' 9 v' r):=by
 unfold zA3 at h;refine ConS.mk (N:=42) Tryz.func124 rfl rfl kr rfl<|Ws<|Wg<|A<|We<|Ws<|Wg<|M<|M<|B h fun i hi h=>?_
 obtain ⟨HB,hleB,hBb,_,SB⟩:=S.settle (i:=jb+1) (by simpa using hj);have hAt:At HB ⟨bb0,0,none⟩ csb:=⟨Tb,csb,rfl,hBb,[],by simp⟩;obtain ⟨H1,aa,af,R1⟩:=SB.view_ (i:=0) rfl (RM.mono hleB);refine W.callF S rfl (zCF af ((hG.pstX SB.post).le aa) b t R1 (fun hle hw=>F (Hp.le.trans hleB (Hp.le.trans aa hle)) hw ((hAt.mono aa hne).mono hle hne)) hi) ?_;rintro _ w1 H2 rfl S;refine A<|We<|Ws<|Ws<|Wg<|M<|Le<|We ?_;unfold delR at h;rcases condE h with ⟨hc,h⟩ | ⟨hc,h⟩
 ·refine CT hc<|Ws<|Wg<|M<|A<|We ?_
  obtain rfl:=oi h;refine WP.ret (OutS.one (L':=[en]) rfl lr S rfl ?_);exact ⟨en,rfl,RM⟩
 refine CF hc<|Wk ?_;rcases condE h with ⟨hb,h⟩ | ⟨hb,h⟩
 case inr=>cases h
 have hb:=dT hb;obtain ⟨c,rfl⟩:=Int.eq_ofNat_of_zero_le hb.1;have ad:c<b.length:=by omega
 rcases RM with ⟨_,hnil,_⟩ | ⟨g,cap,cur0,cs0,rfl,rfl,hnc,hcm,hcs,htk,hC⟩
 ·subst hnil; exact absurd ad (Nat.not_lt_zero _)
 have D0:DelI Hs b cur0 (b.take c) (c+1):=DelI.start htk hC ad;have hmax:b.length≤9223372036854775807:=by simp only [maxLen] at hcm; omega
 have aj:(b.take c).length=c:=by rw [List.length_take]; omega
 refine Ws<|Ws<|Wg<|M<|Lg<|A<|We ?_;refine WP.cut (fun f w=>∃ (m:Nat) (cur:Array Value),f 0=.slice (some ⟨g,0,none⟩) b.length cap∧f 5=int r.length∧b.length≤m∧cur.size=cap*1∧DelI Hs b cur r m∧St k l w Hs (.obj g (.cells cur 9 (0,0)) :: p)) ?_ ?_
 ·refine Wb ?_
  refine WP.loopM (delL b t) (fun s f w=>∃ (m:Nat) (cur:Array Value),s.2=m∧f 0=.slice (some ⟨g,0,none⟩) b.length cap∧f 1=.func (.func kd) #[] cd.toArray∧f 5=int s.1.length∧f 6=int m∧cur.size=cap*1∧DelI Hs b cur s.1 m∧St k l w Hs (.obj g (.cells cur 9 (0,0)) :: p)) _ _ h ?_ ?_
  ·refine ⟨c+1,cur0,rfl,rfl,rfl,?_,?_,hcs,D0,S⟩
   ·show int c=int ((b.take (Int.toNat c)).length:Nat)
    rw [Int.toNat_natCast,aj]
   show int (wr ((c:Int)+1))=int ((c+1:Nat):Int)
   rw [wr_eq ⟨by omega,by omega⟩]; rfl
  rintro ⟨K,mi⟩ f w ⟨m,cur,rfl,d,h1,j,u,hsz,D,S⟩ y hy hyr;unfold delL at hy;refine Ws<|Ws<|Wg<|M' u<|M' d<|Nv<|La<|We ?_;rcases condE hy with ⟨hcm,hy⟩ | ⟨hcm,hy⟩
  ·refine CT hcm<|Wk ?_
   have hmn:m<b.length:=by have:=dT hcm; omega
   refine B hy fun x hx hy=>?_
   obtain rfl:b[m]=x:=by
    unfold xnth at hx;rw [if_pos (by omega)] at hx;have:=(List.getElem?_eq_some_iff.1 hx).2;exact this
   obtain ⟨_,ae,_,rfl⟩:=D.look hmn;refine Ws<|Wb<|Ws<|Wg<|M' d<|M' u ?_;refine WL.wz (R.idxN (m:=(m:Int)) rfl rfl el33 ⟨by omega,by omega⟩) ?_;refine WL.wz (R.loadO1 (i:=0) (o:=m*1) (v:=str b[m]) S rfl rfl lay9 ae)<|A<|We<|Ws<|Wg ?_;refine M' h1<|M<|B hy fun bb hbb hy=>?_
   obtain ⟨HB,hleB,hBb,_,SB⟩:=S.settle (i:=jb+1) (by simpa using hj);refine W.callvF S rfl rfl (F hleB SB.holds ⟨Tb,csb,rfl,hBb,[],by simp⟩ (hG.pstX SB.post) b[m] bb hbb) ?_;rintro _ aq au rfl S;refine No<|We ?_;cases bb with
   | true =>
    refine CF rfl<|Wk<|Wg<|M' u<|Lg<|A<|We ?_;obtain rfl:=oi hy;refine ⟨rfl,m+1,cur,rfl,d,h1,j,?_,hsz,D.skip hmn,S⟩
    show int (wr ((m:Int)+1))=int ((m+1:Nat):Int)
    rw [wr_eq ⟨by omega,by omega⟩]; rfl
   | false =>
    refine CT rfl<|Ws<|Wg<|M' d<|M' j<|M ?_;have hKm:K.length<m:=D.1;refine WL.wz (R.idxN (m:=(K.length:Int)) rfl rfl el33 ⟨by omega,by omega⟩) ?_;refine W.storeO (i:=0) (o:=K.length*1) S rfl rfl rfl lay9 rfl rfl (by omega) ?_;intro av cur' hcur S;have hcur:cur'.toList=cur.toList.take (K.length*1)++[str b[m]]++cur.toList.drop (K.length*1+1):=hcur;have D2:=D.keep hmn ae hcur;refine We<|Wg<|M' j<|Lg<|A<|We<|Wg<|M' u<|Lg<|A<|We ?_;obtain rfl:=oi hy;refine ⟨rfl,m+1,cur',rfl,d,h1,?_,?_,?_,D2,S⟩
    ·show int (wr ((K.length:Int)+1))=int (((K++[b[m]]).length:Nat):Int)
     rw [wr_eq ⟨by omega,by omega⟩,lA]; rfl
    ·show int (wr ((m:Int)+1))=int ((m+1:Nat):Int)
     rw [wr_eq ⟨by omega,by omega⟩]; rfl
    rw [← Array.length_toList,hcur];simp only [lA,List.length_take,List.length_drop,lC,List.length_nil];have hcl:cur.toList.length=cap*1:=hsz;rw [hcl];omega
  refine CF hcm<|Wx ?_;obtain rfl:=oi hy;obtain rfl:=hyr;have hcm:=dF hcm;exact ⟨m,cur,d,j,by omega,hsz,D,S⟩
 rintro f w ⟨m,cur,d,j,hm,hsz,D,S⟩;have hKm:=D.1;have hmp:=D.2.1;obtain ⟨kc,hkc,hkC⟩:=D.front;refine Ws<|Wg<|M' d<|M' j ?_;refine WL.wz (R.sliceLo rfl rfl el33 (by omega) (by omega))<|W.clearO (α:=Str) (i:=0) S el33 (fun z hz=>by rw [zer9] at hz; obtain rfl:=oi hz; rfl) rfl rfl (by show r.length*1+(b.length - r.length)*1≤cur.size; omega) ?_;intro aw cur2 al am S;refine We<|Ws<|Wg<|M' d<|M' j ?_;refine WL.wz (R.sliceHi rfl rfl el33 (by omega))<|A<|We ?_;refine WP.ret (OutS.one (L':=[.obj g (.cells cur2 9 (0,0))]) rfl lr S rfl ?_);exact ⟨_,rfl,.inr ⟨g,cap,cur2,kc,rfl,rfl,by omega,hcm,by rw [al]; exact hsz,am.trans hkc,hkC⟩⟩
end Go.Proofs
namespace Go.Proofs
open Go Go.Eng Go.VI Go.Eng.Pure
theorem zTr:∀ g,errSe g=true→g=0∨g=2∨g=3:=by
 intro g h;unfold errSe at h;split at h
 ·exact .inl rfl
 ·exact .inr (.inl rfl)
 ·exact .inr (.inr rfl)
 cases h
theorem wc {l:List (GE UU)} (W:∀ {l:List (GE UU)},GamOk Tryz.prog (gal l)→WE Tryz.prog UU) (h:GamOk Tryz.prog (gal l)):GamOk Tryz.prog (gal (⟨(W h).id,(W h).S⟩ :: l)):=wcons (W h) h
theorem c139:FK ⟨139,[.str],[.int,.boo],fun x=>zA5 x⟩:=mk anil (.n .e (.n .e (.n (.n .e (.lp ⟨[iS 4 .int,iS 8 .int],some [],[]⟩ (some ⟨[iS 4 .int],some [],[]⟩) true .e)) .e))) Tryz.func139
theorem c80:FK ⟨80,[.int,.str],[.boo],fun x=>zBj x.1 x.2⟩:=mk anil (.e) Tryz.func80
theorem c48:FK ⟨48,[.int],[.int],fun x=>zFe x⟩:=mk anil (.e) Tryz.func48
theorem c27:FK ⟨27,[],[(.st 23)],fun _=>law32_config⟩:=mk anil (.e) Tryz.func27
theorem c4:FK ⟨4,[(.sl (.st 41))],[.boo],fun x=>zHp x⟩:=mk anil (.n .e (.n (.n .e (.lp ⟨[iS 3 .int],some [],[]⟩ (some ⟨[],some [],[]⟩) true .e)) .e)) Tryz.func4
theorem c29:FK ⟨29,[.byt],[.boo],fun x=>zI2 x⟩:=mk anil (.n .e (.n (.n .e (.j ⟨[],some [],[]⟩ true (.n (.n (.n .e (.j ⟨[iS 4 .boo],some [],[]⟩ false .e)) .e) .e))) .e)) Tryz.func29
theorem c18:FK ⟨18,[.str],[.boo],fun x=>zAZ x⟩:=mk (fcons c29 anil) (.n .e (.n (.n .e (.lp ⟨[iS 6 .int],some [],[]⟩ (some ⟨[],some [],[]⟩) true .e)) .e)) Tryz.func18
theorem c165:FK ⟨165,[.str,.str],[.boo],fun x=>zBb x.1 x.2⟩:=mk anil (.e) Tryz.func165
theorem c99:FK ⟨99,[.str,.str],[.boo],fun x=>zAj x.1 x.2⟩:=mk (fcons c165 anil) (.e) Tryz.func99
theorem c211:FK ⟨211,[(.sl .str)],[.int],fun x=>zDR x⟩:=mk anil (.n .e (.n .e (.n (.n .e (.lp ⟨[iS 3 .int,iS 8 .int],some [],[]⟩ (some ⟨[iS 3 .int],some [],[]⟩) false .e)) .e))) Tryz.func211
theorem c146:FK ⟨146,[(.st 87)],[.int],fun x=>zGC x⟩:=mk (fcons c211 anil) (.n .e (.n .e (.n (.n .e (.lp ⟨[iS 3 .int,iS 27 .int],some [],[]⟩ (some ⟨[iS 3 .int],some [],[]⟩) false .e)) (.n (.n .e (.lp ⟨[iS 3 .int,iS 45 .int],some [],[]⟩ (some ⟨[iS 3 .int],some [],[]⟩) false .e)) .e)))) Tryz.func146
theorem c135:FK ⟨135,[.str],[.boo],fun x=>zDl x⟩:=mk anil (.n .e (.n (.n .e (.lp ⟨[iS 7 .int],some [],[]⟩ (some ⟨[],some [],[]⟩) true .e)) .e)) Tryz.func135
theorem c75:FK ⟨75,[(.st 142)],[.str],fun x=>zHa x⟩:=mk (fcons c135 anil) (.e) Tryz.func75
theorem c214:FK ⟨214,[(.sl .str),.str],[.int],fun x=>zB3 x.1 x.2⟩:=mk anil (.n .e (.n (.n .e (.lp ⟨[iS 8 .int],some [],[]⟩ (some ⟨[],some [],[]⟩) true .e)) .e)) Tryz.func214
theorem c153:FK ⟨153,[(.sl .str),.str],[.boo],fun x=>zAr x.1 x.2⟩:=mk (fcons c214 anil) (.e) Tryz.func153
theorem c151:FK ⟨151,[.str],[.boo],fun x=>zGU x⟩:=mk anil (.e) Tryz.func151
theorem c90:FK ⟨90,[.str,.int],[.boo],fun x=>zC2 x.1 x.2⟩:=mk (fcons c151 anil) (.e) Tryz.func90
theorem c26:FK ⟨26,[(.sl .str),(.sl .str)],[.boo],fun x=>zDW x.1 x.2⟩:=mk anil (.n .e (.n .e (.n (.n .e (.lp ⟨[iS 5 .int],some [],[]⟩ (some ⟨[],some [],[]⟩) true .e)) .e))) Tryz.func26
theorem c13:FK ⟨13,[(.sl .str),(.sl .str)],[.boo],fun x=>zDu x.1 x.2⟩:=mk (fcons c26 anil) (.e) Tryz.func13
theorem c208:FK ⟨208,[(.st 79)],[.int],fun x=>zHB x⟩:=mk (fcons c146 anil) (.n .e (.n .e (.n (.n .e (.lp ⟨[iS 3 .int,iS 9 .int],some [],[]⟩ (some ⟨[iS 3 .int],some [],[]⟩) false .e)) .e))) Tryz.func208
theorem c16:FK ⟨16,[.int,.int,.int],[.boo],fun x=>zHX x.1 x.2.1 x.2.2⟩:=mk anil (.e) Tryz.func16
theorem c28:FK ⟨28,[.byt],[.boo],fun x=>zEN x⟩:=mk anil (.n .e (.n .e (.n (.n .e (.lp ⟨[iS 3 .int],some [],[]⟩ (some ⟨[],some [],[]⟩) true .e)) .e))) Tryz.func28
theorem c15:FK ⟨15,[.str],[.boo],fun x=>zE1 x⟩:=mk (fcons c28 anil) (.n .e (.n (.n .e (.lp ⟨[iS 3 .int],some [],[]⟩ (some ⟨[],some [],[]⟩) true .e)) .e)) Tryz.func15
theorem c5:FK ⟨5,[(.st 23)],[.boo],fun x=>zET x⟩:=mk (fcons c16 (fcons c15 anil)) (.e) Tryz.func5
end Go.Proofs
namespace Go.Proofs
open Go.Eng Go.Eng.Pure
theorem zJT {b:World} {c:Hp} (hw:Holds b c) (d:Str) (f:Str) {r:Int} (h:zAh d f=some r) :
  Ci Tryz.prog 98 [(str d),(str f)] b c r :=
 zVY Tryz.func98 rfl kr hw h (zJH Tryz.lays153 kr)
end Go.Proofs
namespace Go.Proofs
open Go Go.Eng Go.VI Go.Eng.Pure
theorem c98:FK ⟨98,[.str,.str],[.int],fun x=>zAh x.1 x.2⟩:=@fun w H az x y hw hg i hT h=>by
 obtain ⟨b,_,rfl,c,⟨d,rfl,f⟩⟩:=hT;obtain rfl:b=_:=c;obtain rfl:d=_:=f;exact (zJT hw x.1 x.2 h).mono (fun _ _ e=>⟨[_],e,_,rfl,rfl⟩)
end Go.Proofs
namespace Go.Proofs
open Go.Eng Go.Eng.Pure
theorem zMU {c:World} {b:Hp} (hw:Holds c b) (d:List Str) (f:Str) {vl:Value} (R:Sl b vl d) {r:Str} (h:strings_Join d f=some r) :
  Cs Tryz.prog 171 [vl,(str f)] c b r :=
 zXi Tryz.func171 rfl kr hw R h Tryz.strings_Join_none Tryz.strings_Join
end Go.Proofs
namespace Go.Proofs
open Go Go.Eng Go.VI Go.Eng.Pure
theorem c171:FK ⟨171,[(.sl .str),.str],[.str],fun x=>strings_Join x.1 x.2⟩:=@fun w H az x y hw hg f hT h=>by
 obtain ⟨i,_,rfl,b,⟨c,rfl,d⟩⟩:=hT;obtain rfl:c=_:=d;exact (zMU hw x.1 x.2 b h).mono (fun _ _ e=>⟨[_],e,_,rfl,rfl⟩)
end Go.Proofs
namespace Go.Proofs
open Go.Eng Go.Eng.Pure
theorem el266:Elem Tryz.prog 266 5 1:=zFg kr
theorem lay5:lay Tryz.prog 5=some (false,1):=kr
instance:Lay Tryz.prog 5 (false,1):=⟨lay5⟩
theorem zBJ {o:World} {k:Hp} (hw:Holds o k) (hG:GlX o k) (c:Str) {r:Str} (h:zAO c=some r) :
  Cs Tryz.prog 149 [(str c)] o k r:=by
 refine CM 30 Tryz.func149 hw fun S=>?_
 refine Ws<|Wg<|A<|We<|Ws<|Wg<|M<|W.bytes (s:=c) S rfl Tryz.underlying9 Tryz.underlying266 Tryz.underlying5 ?_;intro p c2 w3 aq S;refine A<|We<|Ws<|Ws<|Wg<|M<|Nv<|M<|We<|B h fun t ak h=>WP.cut (fun f w=>∃ (ah:Hp),f 3=(.slice (some ⟨p,0,none⟩) c.length c2)∧t.length=c.length∧St o k w ah [.box p 5 (t.map byt)]) ?_ ?_
 ·refine Wb ?_
  refine WP.loopM (zDq c) (fun s f w=>match s with | (ab,l)=>∃ (u:Hp),f 3=(.slice (some ⟨p,0,none⟩) c.length c2)∧f 8=(.slice (some ⟨p,0,none⟩) c.length c2)∧f 9=(int (c.length:Int))∧f 10=(int ab)∧l.length=c.length∧St o k w u [.box p 5 (l.map byt)]) (0,c) t ak ?_ ?_
  ·exact ⟨k,rfl,rfl,rfl,rfl,rfl,S⟩
  intro s f w hI au b al;obtain ⟨ab,l⟩:=s;obtain ⟨u,z,h6,h7,v,x,S⟩:=hI;refine Ws<|Wg<|La' v h7<|We<|Ws ?_;rcases condE b with ⟨ae,b⟩ | ⟨ae,b⟩
  ·refine CT ae<|Wk<|Ws<|Wb<|Ws<|Wg<|M' v<|B b fun av ai b=>?_
   have aw:=(zBx ai).2;refine WL.wz (R.idxB h6 v el266 (by have:=(zBx ai).2; have hl:l.length=c.length:=x; omega))<|B b fun j am b=>?_
   refine WL.wz (R.loadB (i:=0) S rfl rfl lay5 (zBx am).1)<|A<|A<|We<|Ws<|Wg<|M<|Md j 65<|M ?_;refine WL.grp 3 [18,19] 20 (boo ((decide (65≤j))&&(decide (j≤90)))) ?_ ?_
   ·rcases boolE (decide (65≤j)) with d | d
    ·refine Gy d<|M<|Gy d<|Mb j 90<|Pt d ?_
     exact We ⟨(andT d),ag,rfl⟩
    refine Gn d<|Gn d<|Pf d ?_;exact We ⟨(andF d),ag,rfl⟩
   intro us;refine We ?_;rcases condE b with ⟨af,b⟩ | ⟨af,b⟩
   ·refine CT af<|Wg<|M' z<|M<|M<|Mg j 97<|Mh (j+97) 65<|B b fun c28 aj b=>?_
    have ax:=(zBx aj).2;refine WL.wz (R.idxB rfl rfl el266 (by have:=(zBx aj).2; have hl:l.length=c.length:=x; omega)) ?_;refine W.store (i:=0) ((l.set ab.toNat ((j+97) - 65)).map byt) S rfl rfl rfl lay5 rfl rfl (by rw [List.length_map]; omega) (zSK _ _ _ (by omega)) ?_;intro ay S;refine We<|Wg<|Lg' v rfl<|M<|We ?_;obtain rfl:=oi b;exact ⟨rfl,⟨u,z,h6,h7,rfl,(List.length_set.trans x),S⟩⟩
   refine CF af<|Wk<|Wg<|Lg' v rfl<|M<|We ?_;obtain rfl:=oi b;exact ⟨rfl,⟨u,z,h6,h7,rfl,x,S⟩⟩
  refine CF ae<|Wx ?_;obtain rfl:=oi b;obtain rfl:=al;exact ⟨u,z,x,S⟩
 rintro f w ⟨ah,an,ao,S⟩;refine Ws<|Wg<|M' an ?_;refine WL.wz (R.strB (i:=0) (s:=t) S (by rw [show t.length=c.length from ao]; exact rfl) rfl Tryz.underlying266 Tryz.underlying9 Tryz.underlying5)<|A<|We ?_;exact WP.ret (Rs h S)
end Go.Proofs
namespace Go.Proofs
open Go Go.Eng Go.VI Go.Eng.Pure
theorem c149:FK ⟨149,[.str],[.str],fun x=>zAO x⟩:=@fun w H az x y hw hg b hT h=>by
 obtain ⟨c,rfl,d⟩:=hT;obtain rfl:c=_:=d;exact (zBJ hw ⟨b.gl,b,hg⟩ x h).mono (fun _ _ e=>⟨[_],e,_,rfl,rfl⟩)
theorem c120:FK ⟨120,[.str,.str],[.boo],fun x=>zAe x.1 x.2⟩:=mk (fcons c149 anil) (.e) Tryz.func120
end Go.Proofs
namespace Go.Proofs
open Go.Eng Go.Eng.Pure
theorem zMg {b:World} {c:Hp} (hw:Holds b c) (hG:GlX b c) (d:Int) {r:Str} (h:strconv_Itoa d=some r) :
  Cs Tryz.prog 130 [(int d)] b c r :=
 zXJ Tryz.func130 rfl kr hw hG.gl.pow10 h Tryz.strconv_Itoa
end Go.Proofs
namespace Go.Proofs
open Go Go.Eng Go.VI Go.Eng.Pure
theorem c130:FK ⟨130,[.int],[.str],fun x=>strconv_Itoa x⟩:=@fun w H az x y hw hg b hT h=>by
 obtain ⟨c,rfl,d⟩:=hT;obtain rfl:c=_:=d;exact (zMg hw ⟨b.gl,b,hg⟩ x h).mono (fun _ _ e=>⟨[_],e,_,rfl,rfl⟩)
theorem c69:FK ⟨69,[.int],[.str],fun x=>zBa x⟩:=mk (fcons c130 anil) (.e) Tryz.func69
end Go.Proofs
namespace Go.Proofs
open Go.Eng Go.Eng.Pure
theorem zVE:fld Tryz.prog 278 1=some 1:=kr
instance:Fld Tryz.prog 278 1 1:=⟨zVE⟩
theorem lay33:lay Tryz.prog 33=some (false,1):=kr
instance:Lay Tryz.prog 33 (false,1):=⟨lay33⟩
theorem zWJ:fld Tryz.prog 278 0=some 0:=kr
instance:Fld Tryz.prog 278 0 0:=⟨zWJ⟩
def Tryz.vvariants_domain:Gvariants_domain→Value
 | .media=>.iface 373 (agg [])
 | .tags=>.iface 374 (agg [])
 | .words n=>.iface 375 (int n)
 | .texts=>.iface 376 (agg [])
end Go.Proofs
namespace Go.Proofs
open Go Go.Eng Go.VI Go.Eng.Pure
theorem c293:FK ⟨293,[.int],[.str],fun x=>zBh x⟩:=mk anil (.e) Tryz.func293
theorem c258:FK ⟨258,[.str],[.int],fun x=>zD2 x⟩:=mk (fcons c293 (fcons c120 anil)) (.n .e (.n (.n .e (.un 6 .e)) .e)) Tryz.func258
theorem zMu {b:World} {c:Hp} (hw:Holds b c) (hG:GlX b c) (d:Str) {r:Int} (h:zD2 d=some r) :
  Ci Tryz.prog 258 [(str d)] b c r:=by
 refine (c258 (xs:=(d)) (y:=r) hw hG.ok hG.gs ⟨_,rfl,rfl⟩ h).mono ?_;rintro _ v ⟨_,rfl,D⟩;obtain ⟨f,rfl,i⟩:=D;obtain rfl:f=_:=i;exact rfl
end Go.Proofs
namespace Go.Proofs
open Go.Eng Go.Eng.Pure
theorem bp373:zHg Tryz.prog 373=some []:=kr
theorem zYZ:zer Tryz.prog 373=some []:=kr
theorem bp374:zHg Tryz.prog 374=some []:=kr
theorem zYN:zer Tryz.prog 374=some []:=kr
theorem bp376:zHg Tryz.prog 376=some []:=kr
theorem zY0:zer Tryz.prog 376=some []:=kr
theorem zFl {c:World} {d:Hp} (hw:Holds c d) (hG:GlX c d) (j:Str) {r:Gvariants_domain} (h:zCP j=some r) :
  Con Tryz.prog 260 [(str j)] c d (fun H' v=>v=(Tryz.vvariants_domain r)):=by
 refine CM 22 Tryz.func260 hw fun S=>?_
 refine Ws<|Wg<|A<|We<|Ws<|Ws<|Wg<|M<|B h fun u ac h=>W.call S rfl (zMu S.holds (hG.pstX S.post) j ac) ?_
 rintro v2 w3 x ai S rfl;refine A<|We<|Ws<|Wg<|M<|We<|B h fun z b h=>WP.cut (fun f w=>match z with | .inl _=>∃ (H6:Hp),St c d w H6 [] | .inr _=>False) ?_ ?_
 ·refine Wb<|Ws<|Wg<|Le<|A<|We ?_
  rcases condE b with ⟨k,b⟩ | ⟨k,b⟩
  ·refine CT k<|Ws<|Wg ?_
   refine WL.wz (R.build [] [] bp373 zYZ rfl rfl) ?_;refine WL.wz (v:=Tryz.vvariants_domain (.media:Gvariants_domain)) (R.ofEq (R.mkIface rfl Tryz.underlying373 (by intro _ h; cases h)) rfl)<|A<|We ?_;obtain rfl:=oi b;obtain rfl:=oi h;refine WP.ret (Out.one rfl S rfl ?_);exact rfl
  refine CF k<|Ws<|Wg<|Le<|A<|We ?_;rcases condE b with ⟨l,b⟩ | ⟨l,b⟩
  ·refine CT l<|Ws<|Wg ?_
   refine WL.wz (R.build [] [] bp374 zYN rfl rfl) ?_;refine WL.wz (v:=Tryz.vvariants_domain (.tags:Gvariants_domain)) (R.ofEq (R.mkIface rfl Tryz.underlying374 (by intro _ h; cases h)) rfl)<|A<|We ?_;obtain rfl:=oi b;obtain rfl:=oi h;refine WP.ret (Out.one rfl S rfl ?_);exact rfl
  refine CF l<|Ws<|Ws<|Wg<|Le<|A<|We<|B b fun ad i b=>WP.cut (fun f w=>∃ (o:Hp),f 3=(int u)∧f 15=(boo ad)∧St c d w o []) ?_ ?_
  ·rcases condE i with ⟨p,i⟩ | ⟨p,i⟩
   ·refine CT p<|Wk ?_
    obtain rfl:=oi i;exact ⟨x,rfl,rfl,S⟩
   refine CF p<|Wg<|Le<|A<|We ?_;obtain rfl:=oi i;exact ⟨x,rfl,rfl,S⟩
  rintro f w ⟨o,ae,ab,S⟩;rcases condE b with ⟨t,b⟩ | ⟨t,b⟩
  ·refine WP.condT ab t<|Ws<|Wg<|M' ae ?_
   refine WL.wz (v:=Tryz.vvariants_domain (.words u:Gvariants_domain)) (R.ofEq (R.mkIface rfl Tryz.underlying375 (by intro _ h; cases h)) rfl)<|A<|We ?_;obtain rfl:=oi b;obtain rfl:=oi h;refine WP.ret (Out.one rfl S rfl ?_);exact rfl
  refine WP.condF ab t<|Wk ?_;obtain rfl:=oi b;exact ⟨o,S⟩
 intro f w hM;rcases z with _ | e
 ·obtain ⟨H6,S⟩:=hM
  refine Ws<|Wg ?_;refine WL.wz (R.build [] [] bp376 zY0 rfl rfl) ?_;refine WL.wz (v:=Tryz.vvariants_domain (.texts:Gvariants_domain)) (R.ofEq (R.mkIface rfl Tryz.underlying376 (by intro _ h; cases h)) rfl)<|A<|We ?_;obtain rfl:=oi h;refine WP.ret (Out.one rfl S rfl ?_);exact rfl
 exact hM.elim
end Go.Proofs
namespace Go.Proofs
open Go Go.Eng Go.VI Go.Eng.Pure
theorem c199:FK ⟨199,[.str],[.boo],fun x=>zCw x⟩:=mk anil (.n .e (.n (.n .e (.lp ⟨[iS 6 .int],some [],[]⟩ (some ⟨[],some [],[]⟩) true .e)) .e)) Tryz.func199
theorem c210:FK ⟨210,[.str],[.str,.boo],fun x=>zCf x⟩:=mk (fcons c199 anil) (.n .e (.n .e (.n .e (.n .e (.n (.n .e (.lp ⟨[iR 5 (.sl .byt) 5,iS 6 .int],some [],[]⟩ (some ⟨[iR 5 (.sl .byt) 5],some [],[]⟩) true (.n .e (.n (.n (.n (.n .e (.j ⟨[iS 6 .int],some [.sl 5],[]⟩ true .e)) .e) .e) .e)))) .e))))) Tryz.func210
end Go.Proofs
namespace Go.Proofs
open Go.Eng Go.Eng.Pure
theorem zJJ {b:World} {c:Hp} (hw:Holds b c) (d:Str) (f:Str) {r:Int} (h:zA1 d f=some r) :
  Ci Tryz.prog 230 [(str d),(str f)] b c r :=
 zU5 Tryz.func230 rfl kr hw h Tryz.stringslite_Index_one
end Go.Proofs
namespace Go.Proofs
open Go Go.Eng Go.VI Go.Eng.Pure
theorem c230:FK ⟨230,[.str,.str],[.int],fun x=>zA1 x.1 x.2⟩:=@fun w H az x y hw hg i hT h=>by
 obtain ⟨b,_,rfl,c,⟨d,rfl,f⟩⟩:=hT;obtain rfl:b=_:=c;obtain rfl:d=_:=f;exact (zJJ hw x.1 x.2 h).mono (fun _ _ e=>⟨[_],e,_,rfl,rfl⟩)
theorem c166:FK ⟨166,[.str,.str],[.str,.str,.boo],fun x=>zEo x.1 x.2⟩:=mk (fcons c230 anil) (.e) Tryz.func166
theorem c100:FK ⟨100,[.str,.str],[.str,.str,.boo],fun x=>zAW x.1 x.2⟩:=mk (fcons c166 anil) (.e) Tryz.func100
theorem c329:FK ⟨329,[.str],[.str,.str,.boo],fun x=>zJ7 x⟩:=mk (fcons c210 (fcons c149 (fcons c100 (fcons c18 anil)))) (.n .e (.n .e (.n .e (.n (.n .e (.j ⟨[iS 6 .str,iS 7 .boo],some [],[]⟩ false .e)) .e)))) Tryz.func329
theorem c328:FK ⟨328,[.str],[(.sl .str)],fun x=>zKW x⟩:=mk anil (.n .e (.n .e (.n .e (.n (.n .e (.lp ⟨[iR 3 (.sl .str) 9,iS 4 .boo,iS 5 .int,iS 6 .int],some [],[]⟩ (some ⟨[iR 3 (.sl .str) 9,iS 5 .int],some [],[]⟩) false .e)) .e)))) Tryz.func328
theorem c300:FK ⟨300,[.str,.byt],[.str],fun x=>zC5 x.1 x.2⟩:=mk anil (.n .e (.n (.lp ⟨[iS 0 .str],some [],[]⟩ (some ⟨[iS 0 .str],some [],[]⟩) false .e) .e)) Tryz.func300
theorem zHF {b:World} {c:Hp} (hw:Holds b c) (hG:GlX b c) (d:Str) (f:UInt8) {r:Str} (h:zC5 d f=some r) :
  Cs Tryz.prog 300 [(str d),(byt f)] b c r:=by
 refine (c300 (xs:=(d,f)) (y:=r) hw hG.ok hG.gs ⟨_,_,rfl,rfl,⟨_,rfl,rfl⟩⟩ h).mono ?_;rintro _ v ⟨_,rfl,D⟩;obtain ⟨i,rfl,j⟩:=D;obtain rfl:i=_:=j;exact rfl
theorem c290:FK ⟨290,[.str,.byt],[.str],fun x=>zBM x.1 x.2⟩:=mk anil (.n .e (.n (.lp ⟨[iS 0 .str],some [],[]⟩ (some ⟨[iS 0 .str],some [],[]⟩) false .e) .e)) Tryz.func290
theorem zEP {b:World} {c:Hp} (hw:Holds b c) (hG:GlX b c) (d:Str) (f:UInt8) {r:Str} (h:zBM d f=some r) :
  Cs Tryz.prog 290 [(str d),(byt f)] b c r:=by
 refine (c290 (xs:=(d,f)) (y:=r) hw hG.ok hG.gs ⟨_,_,rfl,rfl,⟨_,rfl,rfl⟩⟩ h).mono ?_;rintro _ v ⟨_,rfl,D⟩;obtain ⟨i,rfl,j⟩:=D;obtain rfl:i=_:=j;exact rfl
end Go.Proofs
namespace Go.Proofs
open Go.Eng Go.Eng.Pure
theorem zEd {c:World} {d:Hp} (hw:Holds c d) (b:Str) {r:Unit} (h:strings_makeASCIISet b=some r) :
  Con Tryz.prog 163 [(str b)] c d (fun H' v=>v=(.tuple ⟨[(.agg (Lib.setCells b)),(boo true)]⟩)) :=
 zVr Tryz.func163 rfl kr hw h (Tryz.strings_makeASCIISet (fun w=>(Tryz.zeroValue263 w).trans kr))
theorem zWZ:zer Tryz.prog 263=some (List.replicate 256 (boo false)):=kr
theorem zUo:lay Tryz.prog 263=some (true,256):=kr
instance:Lay Tryz.prog 263 (true,256):=⟨zUo⟩
theorem zCy {d:World} {c:Hp} (hw:Holds d c) (f:Str) (i:UInt8) {b:Nat} (hA:At c ⟨b,0,none⟩ (setc f)) {r:Bool} (h:zAd f i=some r) :
  Cb Tryz.prog 164 [(ptr b 0),(byt i)] d c r :=
 zVI Tryz.func164 rfl kr hw hA h Tryz.asciiSet_contains
theorem zG6 {j:World} {c:Hp} (hw:Holds j c) (hG:GlX j c) (o:Str) (k:Str) {bp_as:Nat} (i:At c ⟨bp_as,0,none⟩ (setc k)) {r:Str} (h:zB1 o k=some r) :
  Cs Tryz.prog 301 [(str o),(ptr bp_as 0)] j c r:=by
 refine CM 22 Tryz.func301 hw fun S=>?_
 refine Ws<|Wg<|A<|We<|Ws<|B h fun u ac h=>WP.cut (fun f w=>∃ (v:Hp),f 0=(str u)∧St j c w v []) ?_ ?_
 ·refine Wb ?_
  refine WP.loopM (zBY k) (fun s f w=>match s with | x=>∃ (l:Hp),f 0=(str x)∧f 1=(ptr bp_as 0)∧At l ⟨bp_as,0,none⟩ (setc k)∧St j c w l []) o u ac ?_ ?_
  ·exact ⟨c,rfl,rfl,i,S⟩
  intro x f w hI y8 b z;obtain ⟨l,d,h4,i,S⟩:=hI;refine Ws<|Ws<|Wg<|M' d<|Ns<|Lc<|We ?_;rcases condE b with ⟨p,b⟩ | ⟨p,b⟩
  ·refine CT p<|Wk<|Wb<|Ws<|Ws<|Wg<|M' h4<|M' d<|M' d<|Ns<|Lh<|B b fun ad ae b=>Ja ae<|B b fun al af b=>W.call S rfl (zCy S.holds k ad i af) ?_
   rintro am an ab ah S rfl;have i:=At.mono i ah (by intro h; have:=congrArg List.length h; rw [zGk] at this; cases this);refine No<|We ?_;rcases condE b with ⟨t,b⟩ | ⟨t,b⟩
   ·refine CT t<|Wx ?_
    obtain rfl:=oi b;obtain rfl:=z;exact ⟨ab,d,S⟩
   refine CF t<|Wk<|Wg<|M' d<|M' d<|Ns<|Lh<|B b fun ao ai b=>Jd ai<|A<|We ?_
   obtain rfl:=oi b;exact ⟨rfl,⟨ab,rfl,h4,i,S⟩⟩
  refine CF p<|Wx ?_;obtain rfl:=oi b;obtain rfl:=z;exact ⟨l,d,S⟩
 rintro f w ⟨v,h7,S⟩;refine Ws<|Wg<|M' h7<|A<|We ?_;exact WP.ret (Rs h S)
theorem zEA {i:World} {c:Hp} (hw:Holds i c) (hG:GlX i c) (o:Str) (j:Str) {bp_as:Nat} (d:At c ⟨bp_as,0,none⟩ (setc j)) {r:Str} (h:zBe o j=some r) :
  Cs Tryz.prog 291 [(str o),(ptr bp_as 0)] i c r:=by
 refine CM 16 Tryz.func291 hw fun S=>?_
 refine Ws<|Wg<|A<|We<|Ws<|B h fun u ac h=>WP.cut (fun f w=>∃ (v:Hp),f 0=(str u)∧St i c w v []) ?_ ?_
 ·refine Wb ?_
  refine WP.loopM (zCa j) (fun s f w=>match s with | x=>∃ (l:Hp),f 0=(str x)∧f 1=(ptr bp_as 0)∧At l ⟨bp_as,0,none⟩ (setc j)∧St i c w l []) o u ac ?_ ?_
  ·exact ⟨c,rfl,rfl,d,S⟩
  intro x f w hI y8 b z;obtain ⟨l,k,h4,d,S⟩:=hI;refine Ws<|Ws<|Wg<|M' k<|Ns<|Lc<|We ?_;rcases condE b with ⟨p,b⟩ | ⟨p,b⟩
  ·refine CT p<|Wk<|Wb<|Ws<|Ws<|Wg<|M' h4<|M' k<|B b fun ad ae b=>Ja ae<|B b fun al af b=>W.call S rfl (zCy S.holds j ad d af) ?_
   rintro am an ab ah S rfl;have d:=At.mono d ah (by intro h; have:=congrArg List.length h; rw [zGk] at this; cases this);refine No<|We ?_;rcases condE b with ⟨t,b⟩ | ⟨t,b⟩
   ·refine CT t<|Wx ?_
    obtain rfl:=oi b;obtain rfl:=z;exact ⟨ab,k,S⟩
   refine CF t<|Wk<|Wg<|M' k<|B b fun ao ai b=>Jc ai<|A<|We ?_
   obtain rfl:=oi b;exact ⟨rfl,⟨ab,rfl,h4,d,S⟩⟩
  refine CF p<|Wx ?_;obtain rfl:=oi b;obtain rfl:=z;exact ⟨l,k,S⟩
 rintro f w ⟨v,h7,S⟩;refine Ws<|Wg<|M' h7<|A<|We ?_;exact WP.ret (Rs h S)
theorem zMi {l:World} {o:Hp} (hw:Holds l o) (hG:GlX l o) (k:Str) (c:Str) {r:Str} (h:zGy k c=some r) :
  Cs Tryz.prog 271 [(str k),(str c)] l o r:=by
 refine CM 43 Tryz.func271 hw fun S=>?_
 refine Ws<|Wg<|A<|We<|Ws<|Ws<|Wg<|M<|Na<|M ?_;refine WL.grp 3 [10,11] 12 (boo ((k==[])||(c==[]))) ?_ ?_
 ·rcases boolE (k==[]) with f | f
  ·refine Gn f<|Gn f<|Pt f ?_
   exact We ⟨(orT f),ag,rfl⟩
  refine Gy f<|M<|Gy f<|Na<|Pf f ?_;exact We ⟨(orF f),ag,rfl⟩
 intro us;refine We ?_;rcases condE h with ⟨t,h⟩ | ⟨t,h⟩
 ·refine CT t<|Ws<|Wg<|M<|A<|We ?_
  exact WP.ret (Rs h S)
 refine CF t<|Wk<|Ws<|Ws<|Wg<|M<|Ns<|Le<|M<|B h fun b7 j h=>WL.grp 4 [18,19,20] 21 (boo b7) ?_ ?_
 ·rcases boolE ((c.length:Int)==1) with d | d
  ·replace j:=condT j d
   refine Gy d<|M<|Gy d<|B j fun c6 ac j=>Ja ac<|Gy d<|Ma c6 128<|Pt d ?_
   exact We ⟨(ob j),ag,rfl⟩
  replace j:=condF j d;refine Gn d<|Gn d<|Gn d<|Pf d ?_;exact We ⟨(ob j),ag,rfl⟩
 intro us;refine We ?_;rcases condE h with ⟨u,h⟩ | ⟨u,h⟩
 ·refine CT u<|Ws<|WP.quiet S kr kr<|QM<|QM<|B h fun ad ae h=>QJa ae<|B h fun x af h=>WQ.call (v:=str x) rfl (fun w H' hq S=>zHF S.holds (hG.pstX S.post) k ad af)<|QM<|B h fun c18 ah h=>QJa ah<|B h fun ai aj h=>WQ.call (v:=str ai) rfl (fun w H' hq S=>zEP S.holds (hG.pstX S.post) x c18 aj)<|QA<|WQ.nil ?_
  intro w9 av aw S;exact WP.ret (Rs h S)
 refine CF u<|Wk<|Ws<|Ws<|Wg<|M<|B h fun ax ak h=>W.call S rfl (zEd S.holds c ak) ?_
 rintro ay az a0 a1 S rfl;refine M ?_;refine Ex ?_;refine Ex ?_;refine W.alloc (List.replicate 256 (boo false)) S zWZ ?_;intro al a2 S;refine W.store (i:=0) (setc c) S rfl rfl rfl zUo (show (Lib.setCells c).size=256 by have:=zGk c; simpa [setc] using this) (zRG c) (Nat.le_of_eq (by rw [List.length_replicate])) (zND ((zGk c).trans (by rw [List.length_replicate]))) ?_;intro a3 S;obtain ⟨z,a4,am,_,S⟩:=S.settle (i:=0) rfl;replace S:St l o _ z []:=S;have p:At z ⟨al,0,none⟩ (setc c):=⟨_,_,rfl,am,[],by simp⟩;refine A<|We<|Ws<|Wg<|M<|We<|WP.condT (b:=true) rfl rfl<|Ws<|Wg<|M<|B h fun an ao h=>W.call S rfl (zG6 S.holds (hG.pstX S.post) k c p ao) ?_
 rintro a5 a6 a7 ap S rfl;have p:=At.mono p ap (by intro h; have:=congrArg List.length h; rw [zGk] at this; cases this);refine B h fun a8 aq h=>W.call S rfl (zEA S.holds (hG.pstX S.post) an c p aq) ?_
 rintro a9 ba bb bc S rfl;refine A<|We ?_;exact WP.ret (Rs h S)
end Go.Proofs
namespace Go.Proofs
open Go Go.Eng Go.VI Go.Eng.Pure
theorem c271:FK ⟨271,[.str,.str],[.str],fun x=>zGy x.1 x.2⟩:=@fun w H az x y hw hg b hT h=>by
 obtain ⟨c,_,rfl,d,⟨f,rfl,i⟩⟩:=hT;obtain rfl:c=_:=d;obtain rfl:f=_:=i;exact (zMi hw ⟨b.gl,b,hg⟩ x.1 x.2 h).mono (fun _ _ e=>⟨[_],e,_,rfl,rfl⟩)
theorem c242:FK ⟨242,[.str],[.str],fun x=>zCu x⟩:=mk (fcons c271 anil) (.e) Tryz.func242
theorem c314:FK ⟨314,[.str],[.str,(.sl (.st 407)),.boo],fun x=>zGS x⟩:=mk (fcons c329 (fcons c328 (fcons c242 anil))) (.n .e (.n .e (.n .e (.n .e (.n .e (.n (.n .e (.lp ⟨[iR 7 (.sl (.st 407)) 407,iS 24 .int],some [],[]⟩ (some ⟨[iR 7 (.sl (.st 407)) 407],some [],[]⟩) true .e)) .e)))))) Tryz.func314
end Go.Proofs

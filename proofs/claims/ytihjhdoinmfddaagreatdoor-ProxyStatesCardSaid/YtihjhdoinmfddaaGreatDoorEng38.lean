/- A part of the proof of laws of the seat. -/
import Derived.Test.YtihjhdoinmfddaaGreatDoorEng39
set_option linter.unusedVariables false
set_option linter.unusedSimpArgs false
namespace Go.Eng
open Go
class Und (P:Program) (T:TypeId) (D:outParam TypeDesc):Prop where out:P.underlying T=some D
class Lay (P:Program) (T:TypeId) (r:outParam (Bool×Nat)):Prop where out:lay P T=some r
class Fld (P:Program) (T:TypeId) (k:Nat) (o:outParam Nat):Prop where out:fld P T k=some o
theorem B {α β:Type} {m:Option α} {k:α→Option β} {r:β} {G:Prop} (h:m.bind k=some r) (K:∀ x,m=some x→k x=some r→G):G:=by
  obtain ⟨x,h1,h2⟩:=bindE h;exact K x h1 h2
theorem kr {p:Prop} (h:p:=by kernel_rfl):p:=h
def bm (n m:Nat):Array Bool:=((List.range n).map fun i=>Nat.testBit m i).toArray
section
variable {P:Program} {N:Frm} {f:Fr} {w w' w0:World} {H0 H:Hp} {L:List Ent} {ops:Array Oper} {rest:List Oper} {Q:Fr→World→Prop} {K:Fr→Prop} {E:World→Prop} {od:Option Nat} {ty:TypeId} {pos:String} {af:Array Edge} {v:Value} {x y z c:Operand} {T T' e:TypeId} {a b:Int} {p q:UInt8} {s t:Str} {g h:Bool} {ms:List Value} {o n m i k B F:Nat} {D:TypeDesc} {op:Op}
theorem We (k:Q f w):WL P N ops [] Q f w:=WL.e k
theorem M (k:WL P N ops rest Q (updo f od v) w) (hx:ev N f x=v:=by (conv=>lhs; whnf) <;> exact rfl):WL P N ops (⟨od,.move x,ty,pos,af,none⟩ :: rest) Q f w:=WL.mz v hx k
theorem M' (hx:ev N f x=v) (k:WL P N ops rest Q (updo f od v) w):WL P N ops (⟨od,.move x,ty,pos,af,none⟩ :: rest) Q f w:=WL.mz v hx k
theorem A (k:WL P N ops rest Q (updo f od v) w) (hx:ev N f x=v:=by (conv=>lhs; whnf) <;> exact rfl):WL P N ops (⟨od,.assign x,ty,pos,af,none⟩ :: rest) Q f w:=WL.az v hx k
theorem QM (k:WQ P N ops E rest K (updo f od v)) (hx:ev N f x=v:=by (conv=>lhs; whnf) <;> exact rfl):WQ P N ops E (⟨od,.move x,ty,pos,af,none⟩ :: rest) K f:=WQ.val (fun _ _=>R.mv hx) k
theorem QM' (hx:ev N f x=v) (k:WQ P N ops E rest K (updo f od v)):WQ P N ops E (⟨od,.move x,ty,pos,af,none⟩ :: rest) K f:=WQ.val (fun _ _=>R.mv hx) k
theorem QA (k:WQ P N ops E rest K (updo f od v)) (hx:ev N f x=v:=by (conv=>lhs; whnf) <;> exact rfl):WQ P N ops E (⟨od,.assign x,ty,pos,af,none⟩ :: rest) K f:=WQ.val (fun _ _=>R.as hx) k
theorem Gy (hb:g=h) (k:WL P N ops (⟨od,op,ty,pos,af,none⟩ :: rest) Q f w) (hj:(ops[i]?).bind (·.dst)=some n:=by rfl) (hv:ev N f (.tmp n)=.bool g:=by rfl):WL P N ops (⟨od,op,ty,pos,af,some (i,h)⟩ :: rest) Q f w:=WL.yz hj hv hb k
theorem Gn (hb:g=!h) (k:WL P N ops rest Q (updo f od undef) w) (hj:(ops[i]?).bind (·.dst)=some n:=by rfl) (hv:ev N f (.tmp n)=.bool g:=by rfl):WL P N ops (⟨od,op,ty,pos,af,some (i,h)⟩ :: rest) Q f w:=WL.n hj hv hb k
theorem QGy (hb:g=h) (k:WQ P N ops E (⟨od,op,ty,pos,af,none⟩ :: rest) K f) (hj:(ops[i]?).bind (·.dst)=some n:=by rfl) (hv:ev N f (.tmp n)=boo g:=by rfl):WQ P N ops E (⟨od,op,ty,pos,af,some (i,h)⟩ :: rest) K f:=WQ.gyes hj hv hb k
theorem QGn (hb:g=!h) (k:WQ P N ops E rest K (updo f od undef)) (hj:(ops[i]?).bind (·.dst)=some n:=by rfl) (hv:ev N f (.tmp n)=boo g:=by rfl):WQ P N ops E (⟨od,op,ty,pos,af,some (i,h)⟩ :: rest) K f:=WQ.gno hj hv hb k
end
section
variable {P:Program} {N:Frm} {f:Fr} {w:World} {Q:Exit→Fr→World→Prop} {X Y:Code} {c:Operand} {i:Nat} {g:Bool} {ops:Array Oper}
theorem Ws (k:WP P N X (fun e f w=>match e with | .normal=>WP P N Y Q f w | e=>Q e f w) f w):WP P N (.seq X Y) Q f w:=WP.s k
theorem Wg (k:WL P N ops ops.toList (Q .normal) f w):WP P N (.region i ops false) Q f w:=WP.gz k
theorem Wk (k:Q .normal f w):WP P N .skip Q f w:=WP.skip k
theorem Wb (k:WP P N X (fun e f w=>Q (blk i e) f w) f w):WP P N (.block i X) Q f w:=WP.block k
theorem Wx (k:Q (.exit i) f w):WP P N (.exit i) Q f w:=WP.exit k
theorem CT (hb:g=true) (k:WP P N X Q f w) (hc:ev N f c=.bool g:=by rfl):WP P N (.cond c X Y) Q f w:=WP.condT hc hb k
theorem CF (hb:g=false) (k:WP P N Y Q f w) (hc:ev N f c=.bool g:=by rfl):WP P N (.cond c X Y) Q f w:=WP.condF hc hb k
end
section
variable {P:Program} {N:Frm} {f:Fr} {w w' w0:World} {H0 H:Hp} {L:List Ent} {ops:Array Oper} {rest:List Oper} {Q:Fr→World→Prop} {K:Fr→Prop} {E:World→Prop} {od:Option Nat} {ty:TypeId} {pos:String} {af:Array Edge} {v:Value} {x y z c:Operand} {T T' e:TypeId} {a b:Int} {p q:UInt8} {s t u:Str} {g h:Bool} {ms:List Value} {n m i j B F:Nat} {D:TypeDesc} {A:Addr}
theorem La   (k:WL P N ops rest Q (updo f od (boo (decide (a<b)))) w) (hx:ev N f x=int a:=by exact rfl) (hy:ev N f y=int b:=by exact rfl):WL P N ops (⟨od,.binOp .lss T x y T',ty,pos,af,none⟩ :: rest) Q f w:=WL.wz (R.lss hx hy) k
theorem La'   (hx:ev N f x=int a) (hy:ev N f y=int b) (k:WL P N ops rest Q (updo f od (boo (decide (a<b)))) w)  : WL P N ops (⟨od,.binOp .lss T x y T',ty,pos,af,none⟩ :: rest) Q f w:=WL.wz (R.lss hx hy) k
theorem Lb   (k:WL P N ops rest Q (updo f od (boo (decide (a≤b)))) w) (hx:ev N f x=int a:=by exact rfl) (hy:ev N f y=int b:=by exact rfl):WL P N ops (⟨od,.binOp .leq T x y T',ty,pos,af,none⟩ :: rest) Q f w:=WL.wz (R.leq hx hy) k
theorem Lc   (k:WL P N ops rest Q (updo f od (boo (decide (b<a)))) w) (hx:ev N f x=int a:=by exact rfl) (hy:ev N f y=int b:=by exact rfl):WL P N ops (⟨od,.binOp .gtr T x y T',ty,pos,af,none⟩ :: rest) Q f w:=WL.wz (R.gtr hx hy) k
theorem Ld   (k:WL P N ops rest Q (updo f od (boo (decide (b≤a)))) w) (hx:ev N f x=int a:=by exact rfl) (hy:ev N f y=int b:=by exact rfl):WL P N ops (⟨od,.binOp .geq T x y T',ty,pos,af,none⟩ :: rest) Q f w:=WL.wz (R.geq hx hy) k
theorem QLd   (k:WQ P N ops E rest K (updo f od (boo (decide (b≤a))))) (hx:ev N f x=int a:=by exact rfl) (hy:ev N f y=int b:=by exact rfl):WQ P N ops E (⟨od,.binOp .geq T x y T',ty,pos,af,none⟩ :: rest) K f:=WQ.val (fun _ _=>R.geq hx hy) k
theorem Le   (k:WL P N ops rest Q (updo f od (boo (a==b))) w) (hx:ev N f x=int a:=by exact rfl) (hy:ev N f y=int b:=by exact rfl):WL P N ops (⟨od,.binOp .eql T x y T',ty,pos,af,none⟩ :: rest) Q f w:=WL.wz (R.eql hx hy) k
theorem QLe   (k:WQ P N ops E rest K (updo f od (boo (a==b)))) (hx:ev N f x=int a:=by exact rfl) (hy:ev N f y=int b:=by exact rfl):WQ P N ops E (⟨od,.binOp .eql T x y T',ty,pos,af,none⟩ :: rest) K f:=WQ.val (fun _ _=>R.eql hx hy) k
theorem Lf   (k:WL P N ops rest Q (updo f od (boo (a !=b))) w) (hx:ev N f x=int a:=by exact rfl) (hy:ev N f y=int b:=by exact rfl):WL P N ops (⟨od,.binOp .neq T x y T',ty,pos,af,none⟩ :: rest) Q f w:=WL.wz (R.neq hx hy) k
theorem Lg   (k:WL P N ops rest Q (updo f od (int (wr (a+b)))) w) (hx:ev N f x=int a:=by exact rfl) (hy:ev N f y=int b:=by exact rfl):WL P N ops (⟨od,.binOp .add T x y T',ty,pos,af,none⟩ :: rest) Q f w:=WL.wz (R.add hx hy) k
theorem Lg'   (hx:ev N f x=int a) (hy:ev N f y=int b) (k:WL P N ops rest Q (updo f od (int (wr (a+b)))) w)  : WL P N ops (⟨od,.binOp .add T x y T',ty,pos,af,none⟩ :: rest) Q f w:=WL.wz (R.add hx hy) k
theorem Lh   (k:WL P N ops rest Q (updo f od (int (wr (a - b)))) w) (hx:ev N f x=int a:=by exact rfl) (hy:ev N f y=int b:=by exact rfl):WL P N ops (⟨od,.binOp .sub T x y T',ty,pos,af,none⟩ :: rest) Q f w:=WL.wz (R.sub hx hy) k
theorem QLh   (k:WQ P N ops E rest K (updo f od (int (wr (a - b))))) (hx:ev N f x=int a:=by exact rfl) (hy:ev N f y=int b:=by exact rfl):WQ P N ops E (⟨od,.binOp .sub T x y T',ty,pos,af,none⟩ :: rest) K f:=WQ.val (fun _ _=>R.sub hx hy) k
theorem Li   (k:WL P N ops rest Q (updo f od (int (wr (a*b)))) w) (hx:ev N f x=int a:=by exact rfl) (hy:ev N f y=int b:=by exact rfl):WL P N ops (⟨od,.binOp .mul T x y T',ty,pos,af,none⟩ :: rest) Q f w:=WL.wz (R.mul hx hy) k
theorem Ma  (p q:UInt8) (k:WL P N ops rest Q (updo f od (boo (decide (p<q)))) w) (hx:ev N f x=byt p:=by exact rfl) (hy:ev N f y=byt q:=by exact rfl):WL P N ops (⟨od,.binOp .lss T x y T',ty,pos,af,none⟩ :: rest) Q f w:=WL.wz (R.lss8 hx hy) k
theorem Mb  (p q:UInt8) (k:WL P N ops rest Q (updo f od (boo (decide (p≤q)))) w) (hx:ev N f x=byt p:=by exact rfl) (hy:ev N f y=byt q:=by exact rfl):WL P N ops (⟨od,.binOp .leq T x y T',ty,pos,af,none⟩ :: rest) Q f w:=WL.wz (R.leq8 hx hy) k
theorem Mc  (p q:UInt8) (k:WL P N ops rest Q (updo f od (boo (decide (q<p)))) w) (hx:ev N f x=byt p:=by exact rfl) (hy:ev N f y=byt q:=by exact rfl):WL P N ops (⟨od,.binOp .gtr T x y T',ty,pos,af,none⟩ :: rest) Q f w:=WL.wz (R.gtr8 hx hy) k
theorem Md  (p q:UInt8) (k:WL P N ops rest Q (updo f od (boo (decide (q≤p)))) w) (hx:ev N f x=byt p:=by exact rfl) (hy:ev N f y=byt q:=by exact rfl):WL P N ops (⟨od,.binOp .geq T x y T',ty,pos,af,none⟩ :: rest) Q f w:=WL.wz (R.geq8 hx hy) k
theorem Mg  (p q:UInt8) (k:WL P N ops rest Q (updo f od (byt (p+q))) w) (hx:ev N f x=byt p:=by exact rfl) (hy:ev N f y=byt q:=by exact rfl):WL P N ops (⟨od,.binOp .add T x y T',ty,pos,af,none⟩ :: rest) Q f w:=WL.wz (R.add8 hx hy) k
theorem Mh  (p q:UInt8) (k:WL P N ops rest Q (updo f od (byt (p - q))) w) (hx:ev N f x=byt p:=by exact rfl) (hy:ev N f y=byt q:=by exact rfl):WL P N ops (⟨od,.binOp .sub T x y T',ty,pos,af,none⟩ :: rest) Q f w:=WL.wz (R.sub8 hx hy) k
theorem Na   (k:WL P N ops rest Q (updo f od (boo (s==t))) w) (hx:ev N f x=str s:=by exact rfl) (hy:ev N f y=str t:=by exact rfl):WL P N ops (⟨od,.binOp .eql T x y T',ty,pos,af,none⟩ :: rest) Q f w:=WL.wz (R.eqlS hx hy) k
theorem QNa   (k:WQ P N ops E rest K (updo f od (boo (s==t)))) (hx:ev N f x=str s:=by exact rfl) (hy:ev N f y=str t:=by exact rfl):WQ P N ops E (⟨od,.binOp .eql T x y T',ty,pos,af,none⟩ :: rest) K f:=WQ.val (fun _ _=>R.eqlS hx hy) k
theorem Nb   (k:WL P N ops rest Q (updo f od (boo (s !=t))) w) (hx:ev N f x=str s:=by exact rfl) (hy:ev N f y=str t:=by exact rfl):WL P N ops (⟨od,.binOp .neq T x y T',ty,pos,af,none⟩ :: rest) Q f w:=WL.wz (R.neqS hx hy) k
theorem No   (k:WL P N ops rest Q (updo f od (boo (!g))) w) (hx:ev N f x=boo g:=by exact rfl):WL P N ops (⟨od,.unOp .not T x,ty,pos,af,none⟩ :: rest) Q f w:=WL.wz (R.not hx) k
theorem QNo   (k:WQ P N ops E rest K (updo f od (boo (!g)))) (hx:ev N f x=boo g:=by exact rfl):WQ P N ops E (⟨od,.unOp .not T x,ty,pos,af,none⟩ :: rest) K f:=WQ.val (fun _ _=>R.not hx) k
theorem Ex   (k:WL P N ops rest Q (updo f od (v)) w) (hx:ev N f x=.tuple ⟨ms⟩:=by exact rfl) (hz:ms[i]?=some v:=by exact rfl):WL P N ops (⟨od,.extract x i,ty,pos,af,none⟩ :: rest) Q f w:=WL.wz (R.ext hx hz) k
theorem Pt  (hb:g=true) (k:WL P N ops rest Q (updo f od (v)) w) (hc:ev N f c=boo g:=by exact rfl) (hx:ev N f x=v:=by exact rfl):WL P N ops (⟨od,.pick c x y,ty,pos,af,none⟩ :: rest) Q f w:=WL.wz (R.pickT hc hb hx) k
theorem QPt  (hb:g=true) (k:WQ P N ops E rest K (updo f od (v))) (hc:ev N f c=boo g:=by exact rfl) (hx:ev N f x=v:=by exact rfl):WQ P N ops E (⟨od,.pick c x y,ty,pos,af,none⟩ :: rest) K f:=WQ.val (fun _ _=>R.pickT hc hb hx) k
theorem Pf  (hb:g=false) (k:WL P N ops rest Q (updo f od (v)) w) (hc:ev N f c=boo g:=by exact rfl) (hx:ev N f y=v:=by exact rfl):WL P N ops (⟨od,.pick c x y,ty,pos,af,none⟩ :: rest) Q f w:=WL.wz (R.pickF hc hb hx) k
theorem QPf  (hb:g=false) (k:WQ P N ops E rest K (updo f od (v))) (hc:ev N f c=boo g:=by exact rfl) (hx:ev N f y=v:=by exact rfl):WQ P N ops E (⟨od,.pick c x y,ty,pos,af,none⟩ :: rest) K f:=WQ.val (fun _ _=>R.pickF hc hb hx) k
theorem Ns [D:Und P T .string]  (k:WL P N ops rest Q (updo f od (int s.length)) w) (hx:ev N f x=str s:=by exact rfl):WL P N ops (⟨od,.call ⟨.builtin .len,#[x],#[T]⟩,ty,pos,af,none⟩ :: rest) Q f w:=WL.wz (R.lenS hx D.out) k
theorem QNs [D:Und P T .string]  (k:WQ P N ops E rest K (updo f od (int s.length))) (hx:ev N f x=str s:=by exact rfl):WQ P N ops E (⟨od,.call ⟨.builtin .len,#[x],#[T]⟩,ty,pos,af,none⟩ :: rest) K f:=WQ.val (fun _ _=>R.lenS hx D.out) k
theorem Nv {o:Option Addr} [D:Und P T (.slice e)]  (k:WL P N ops rest Q (updo f od (int n)) w) (hx:ev N f x=.slice o n m:=by exact rfl):WL P N ops (⟨od,.call ⟨.builtin .len,#[x],#[T]⟩,ty,pos,af,none⟩ :: rest) Q f w:=WL.wz (R.lenV hx D.out) k
theorem Nv' {o:Option Addr} [D:Und P T (.slice e)]  (hx:ev N f x=.slice o n m) (k:WL P N ops rest Q (updo f od (int n)) w)  : WL P N ops (⟨od,.call ⟨.builtin .len,#[x],#[T]⟩,ty,pos,af,none⟩ :: rest) Q f w:=WL.wz (R.lenV hx D.out) k
theorem Nq {α:Type} [Enc α] {xs:List α} [D:Und P T (.slice e)] (hR:Sl H v xs) (k:WL P N ops rest Q (updo f od (int xs.length)) w) (hx:ev N f x=v:=by exact rfl):WL P N ops (⟨od,.call ⟨.builtin .len,#[x],#[T]⟩,ty,pos,af,none⟩ :: rest) Q f w:=WL.wz (R.lenL hR hx D.out) k
theorem QNq {α:Type} [Enc α] {xs:List α} [D:Und P T (.slice e)] (hR:Sl H v xs) (k:WQ P N ops E rest K (updo f od (int xs.length))) (hx:ev N f x=v:=by exact rfl):WQ P N ops E (⟨od,.call ⟨.builtin .len,#[x],#[T]⟩,ty,pos,af,none⟩ :: rest) K f:=WQ.val (fun _ _=>R.lenL hR hx D.out) k
theorem Ni {us:Array TypeId}  (k:WL P N ops rest Q (updo f od (int (if b<a then b else a))) w) (hx:ev N f x=int a:=by exact rfl) (hy:ev N f y=int b:=by exact rfl):WL P N ops (⟨od,.call ⟨.builtin .min,#[x,y],us⟩,ty,pos,af,none⟩ :: rest) Q f w:=WL.wz (R.min hx hy) k
theorem Nj {us:Array TypeId}  (k:WL P N ops rest Q (updo f od (int (if a<b then b else a))) w) (hx:ev N f x=int a:=by exact rfl) (hy:ev N f y=int b:=by exact rfl):WL P N ops (⟨od,.call ⟨.builtin .max,#[x,y],us⟩,ty,pos,af,none⟩ :: rest) Q f w:=WL.wz (R.max hx hy) k
theorem Nn   (k:WL P N ops rest Q (updo f od (ptr B n)) w) (hx:ev N f x=ptr B n:=by exact rfl):WL P N ops (⟨od,.nilCheck x,ty,pos,af,none⟩ :: rest) Q f w:=WL.wz (R.nilCheckB hx) k
theorem Fb [D:Fld P T i m]  (k:WL P N ops rest Q (updo f od (ptr B (n+m))) w) (hx:ev N f x=ptr B n:=by exact rfl):WL P N ops (⟨od,.fieldAddr T x i,ty,pos,af,none⟩ :: rest) Q f w:=WL.wz (R.fieldB hx D.out) k
theorem Fb' [D:Fld P T i m]  (hx:ev N f x=ptr B n) (k:WL P N ops rest Q (updo f od (ptr B (n+m))) w)  : WL P N ops (⟨od,.fieldAddr T x i,ty,pos,af,none⟩ :: rest) Q f w:=WL.wz (R.fieldB hx D.out) k
theorem QFb [D:Fld P T i m]  (k:WQ P N ops E rest K (updo f od (ptr B (n+m)))) (hx:ev N f x=ptr B n:=by exact rfl):WQ P N ops E (⟨od,.fieldAddr T x i,ty,pos,af,none⟩ :: rest) K f:=WQ.val (fun _ _=>R.fieldB hx D.out) k
theorem Fc [D:Fld P T i m]  (k:WL P N ops rest Q (updo f od (.pointer (some (A.add m)))) w) (hx:ev N f x=.pointer (some A):=by exact rfl):WL P N ops (⟨od,.fieldAddr T x i,ty,pos,af,none⟩ :: rest) Q f w:=WL.wz (R.field hx D.out) k
theorem QFc [D:Fld P T i m]  (k:WQ P N ops E rest K (updo f od (.pointer (some (A.add m))))) (hx:ev N f x=.pointer (some A):=by exact rfl):WQ P N ops E (⟨od,.fieldAddr T x i,ty,pos,af,none⟩ :: rest) K f:=WQ.val (fun _ _=>R.field hx D.out) k
theorem Ja [D:Und P T .string] (h:xnth s a=some p) (k:WL P N ops rest Q (updo f od (byt p)) w) (hx:ev N f x=str s:=by exact rfl) (hy:ev N f y=int a:=by exact rfl):WL P N ops (⟨od,.index T x y,ty,pos,af,none⟩ :: rest) Q f w:=WL.wz (R.idxS hx hy D.out h) k
theorem QJa [D:Und P T .string] (h:xnth s a=some p) (k:WQ P N ops E rest K (updo f od (byt p))) (hx:ev N f x=str s:=by exact rfl) (hy:ev N f y=int a:=by exact rfl):WQ P N ops E (⟨od,.index T x y,ty,pos,af,none⟩ :: rest) K f:=WQ.val (fun _ _=>R.idxS hx hy D.out h) k
theorem Jb [D:Und P T .string] (h:xsub s a b=some t) (k:WL P N ops rest Q (updo f od (str t)) w) (hx:ev N f x=str s:=by exact rfl) (hy:ev N f y=int a:=by exact rfl) (hz:ev N f z=int b:=by exact rfl):WL P N ops (⟨od,.slice T x (some y) (some z) none,ty,pos,af,none⟩ :: rest) Q f w:=WL.wz (R.subS hx hy hz D.out h) k
theorem Jc [D:Und P T .string] (h:xsub s a s.length=some t) (k:WL P N ops rest Q (updo f od (str t)) w) (hx:ev N f x=str s:=by exact rfl) (hy:ev N f y=int a:=by exact rfl):WL P N ops (⟨od,.slice T x (some y) none none,ty,pos,af,none⟩ :: rest) Q f w:=WL.wz (R.subSlo hx hy D.out h) k
theorem Jd [D:Und P T .string] (h:xsub s 0 a=some t) (k:WL P N ops rest Q (updo f od (str t)) w) (hx:ev N f x=str s:=by exact rfl) (hy:ev N f y=int a:=by exact rfl):WL P N ops (⟨od,.slice T x none (some y) none,ty,pos,af,none⟩ :: rest) Q f w:=WL.wz (R.subShi hx hy D.out h) k
theorem Lo [D:Lay P T (false,1)] (i:Nat) (S:St w0 H0 w H L) (k:WL P N ops rest Q (updo f od (v)) w) (hx:ev N f x=ptr B n:=by exact rfl) (hi:L[i]?=some (.box B T' ms):=by exact rfl) (hv:ms[n]?=some v:=by exact rfl):WL P N ops (⟨od,.load T x,ty,pos,af,none⟩ :: rest) Q f w:=WL.wz (R.loadB S hx hi D.out hv) k
theorem Lo' [D:Lay P T (false,1)] (i:Nat) (S:St w0 H0 w H L) (hx:ev N f x=ptr B n) (k:WL P N ops rest Q (updo f od (v)) w) (hi:L[i]?=some (.box B T' ms):=by exact rfl) (hv:ms[n]?=some v:=by exact rfl):WL P N ops (⟨od,.load T x,ty,pos,af,none⟩ :: rest) Q f w:=WL.wz (R.loadB S hx hi D.out hv) k
theorem Lq [D:Lay P T (false,1)] (S:St w0 H0 w H L) (hA:At H A ms) (k:WL P N ops rest Q (updo f od (v)) w) (hx:ev N f x=.pointer (some A):=by exact rfl) (hv:ms[0]?=some v:=by exact rfl):WL P N ops (⟨od,.load T x,ty,pos,af,none⟩ :: rest) Q f w:=WL.wz (R.loadH S hx hA D.out hv) k
theorem Lq' [D:Lay P T (false,1)] (S:St w0 H0 w H L) (hA:At H A ms) (hx:ev N f x=.pointer (some A)) (k:WL P N ops rest Q (updo f od (v)) w) (hv:ms[0]?=some v:=by exact rfl):WL P N ops (⟨od,.load T x,ty,pos,af,none⟩ :: rest) Q f w:=WL.wz (R.loadH S hx hA D.out hv) k
end
section
variable {P:Program} {N:Frm} {f:Fr} {w w' w0:World} {H0 H:Hp} {L:List Ent} {ops:Array Oper} {rest:List Oper} {Q:Fr→World→Prop} {K:Fr→Prop} {E:World→Prop} {od:Option Nat} {ty:TypeId} {pos:String} {af:Array Edge} {v:Value} {x y z c:Operand} {T T' e:TypeId} {a b:Int} {p q:UInt8} {s t u:Str} {g h:Bool} {ms:List Value} {n m i j B F:Nat} {D:TypeDesc} {A:Addr}
theorem Rb {fn:Func} {q:ResultVar} {y r:Bool} (h:some y=some r) (S:St w0 H0 w H L) (hf:fn.results=#[q]:=by rfl) (hv:Res P N f w q (boo y):=by exact rfl):Out P fn N w0 H0 (fun _ v=>v=boo r) .ret f w:=by
  cases h;exact Out.one hf S hv rfl
theorem Ri {fn:Func} {q:ResultVar} {y r:Int} (h:some y=some r) (S:St w0 H0 w H L) (hf:fn.results=#[q]:=by rfl) (hv:Res P N f w q (int y):=by exact rfl):Out P fn N w0 H0 (fun _ v=>v=int r) .ret f w:=by
  cases h;exact Out.one hf S hv rfl
theorem Rs {fn:Func} {q:ResultVar} {y r:Str} (h:some y=some r) (S:St w0 H0 w H L) (hf:fn.results=#[q]:=by rfl) (hv:Res P N f w q (str y):=by exact rfl):Out P fn N w0 H0 (fun _ v=>v=str r) .ret f w:=by
  cases h;exact Out.one hf S hv rfl
theorem Rl {α:Type} [Enc α] {fn:Func} {q:ResultVar} {y r:List α} {v:Value} (h:some y=some r) (S:St w0 H0 w H L) (hR:Sl H v y) (hf:fn.results=#[q]:=by rfl) (hv:Res P N f w q v:=by exact rfl):Out P fn N w0 H0 (fun H v=>Sl H v r) .ret f w:=by
  cases h;exact Out.one hf S hv hR
theorem CM {fn:Func} {c:Code} {k:FuncId} {args:List Value} {R:Hp→Value→Prop} (n:Nat) (hf:P.funcs[k]?=some fn) (hw:Holds w H) (h:St w H w H []→WP P ⟨n,[]⟩ c (Out P fn ⟨n,[]⟩ w H R) (init args) w) (hb:fn.body=some c:=by rfl) (hn:fn.ntmps=n:=by rfl) (hm:(fn.name== "runtime.NumGoroutine")=false:=by kernel_rfl) (hs:Nat.ble args.length n=true:=by rfl):Con P k args w H R:=Con.mk hf hb hn hm hs (h (St.start hw))
theorem QB [D:Lay P T (false,1)] (i:Nat) (v:Value) (k:WQ P N ops (Cl w0 H0 H L) rest K (updo f od v)) (hx:ev N f x=ptr B n:=by exact rfl) (hi:L[i]?=some (.box B T' ms):=by exact rfl) (hv:ms[n]?=some v:=by exact rfl):WQ P N ops (Cl w0 H0 H L) (⟨od,.load T x,ty,pos,af,none⟩ :: rest) K f:=WQ.val (fun w hw=>by obtain ⟨_,hq,S⟩:=hw; exact R.loadB S hx hi D.out hv) k
theorem QH [D:Lay P T (false,1)] (v:Value) (hA:At H A ms) (k:WQ P N ops (Cl w0 H0 H L) rest K (updo f od v)) (hx:ev N f x=.pointer (some A):=by exact rfl) (hv:ms[0]?=some v:=by exact rfl) (hn:ms≠[]:=by simp):WQ P N ops (Cl w0 H0 H L) (⟨od,.load T x,ty,pos,af,none⟩ :: rest) K f:=WQ.val (fun w hw=>by obtain ⟨_,hq,S⟩:=hw; exact R.loadH S hx (At.mono hA hq hn) D.out hv) k
theorem Sl.up {α:Type} [Enc α] {H H':Hp} {v:Value} {xs:List α} (h:Sl H v xs) (l:H.le H'):Sl H' v xs:=Sl.mono h l
theorem ob {y r:Bool} (h:some y=some r):boo y=boo r:=congrArg boo (oJ h)
theorem lr {H:Hp}:H.le H:=Hp.le.refl _
theorem Cx {C:World→Prop} {n:Nat} {U:Array Bool} (rs:List Nat) (hC:C w) (h:∀ i ∈ rs,Nxt P N ops C n U Q f w i) (hr:Region.ready .any ops U=rs:=by kernel_rfl) (hn:rs≠[]:=by exact List.cons_ne_nil _ _):WC P N ops C (n+1) U Q f w:=WC.next hC hr hn h
theorem Nx {C:World→Prop} {n i:Nat} {o:Oper} {U:Array Bool} (a b:Nat) (hi:ops[i]?=some o) (h:WL P N ops [o] (fun f' w'=>WC P N ops C n (bm a b) Q f' w') f w) (hl:U.setIfInBounds i true=bm a b:=by exact rfl):Nxt P N ops C n U Q f w i:=Nxt.mk (bm a b) hi hl h
theorem Ct {C:World→Prop} {n:Nat} {U:Array Bool} {q:Op} (i a b:Nat) (hi:ops[i]?=some ⟨od,q,ty,pos,af,none⟩) (hu:∀ w,C w→(execOp (ev N f) ⟨od,q,ty,pos,af,none⟩).run P w=.ok (.value v) w) (h:WC P N ops C n (bm a b) Q (updo f od v) w) (hs:Region.noSelect ops=true:=by kernel_rfl) (hf:Region.free .any ops U i=true:=by kernel_rfl) (hr:(Region.ready .any ops U).contains i=true:=by kernel_rfl) (hl:U.setIfInBounds i true=bm a b:=by exact rfl):WC P N ops C (n+1) U Q f w:=WC.take (bm a b) hi hs hf hr hl hu h
theorem At_ {n:Nat} {U:Array Bool} {q:Op} (i a b:Nat) (hi:ops[i]?=some ⟨od,q,ty,pos,af,none⟩) (hu:∀ w,(execOp (ev N f) ⟨od,q,ty,pos,af,none⟩).run P w=.ok (.value v) w) (h:WA P N ops n (bm a b) Q (updo f od v) w) (hs:Region.noSelect ops=true:=by kernel_rfl) (hf:Region.free .any ops U i=true:=by kernel_rfl) (hr:(Region.ready .any ops U).contains i=true:=by kernel_rfl) (hl:U.setIfInBounds i true=bm a b:=by exact rfl):WA P N ops (n+1) U Q f w:=WA.take (bm a b) hi hs hf hr hl hu h
abbrev Cb (P:Program) (k:FuncId) (a:List Value) (w:World) (H:Hp) (r:Bool):Prop:=Con P k a w H (fun _ v=>v=boo r)
abbrev Ci (P:Program) (k:FuncId) (a:List Value) (w:World) (H:Hp) (r:Int):Prop:=Con P k a w H (fun _ v=>v=int r)
abbrev Cs (P:Program) (k:FuncId) (a:List Value) (w:World) (H:Hp) (r:Str):Prop:=Con P k a w H (fun _ v=>v=str r)
abbrev Cc (P:Program) (k:FuncId) (a:List Value) (w:World) (H:Hp) (r:UInt8):Prop:=Con P k a w H (fun _ v=>v=byt r)
end
class Mo (H H':Hp) (p:Prop) (q:outParam Prop):Prop where out:H.le H'→p→q
instance {α:Type} [Enc α] {H H':Hp} {v:Value} {xs:List α}:Mo H H' (Sl H v xs) (Sl H' v xs):=⟨fun l h=>h.mono l⟩
section
variable {H H':Hp}
theorem U2 {p0 p1 q0 q1:Prop} [Mo H H' p0 q0] [Mo H H' p1 q1] (h:H.le H') (x0:p0) (x1:p1):q0∧q1:=⟨Mo.out h x0,Mo.out h x1⟩
theorem U3 {p0 p1 p2 q0 q1 q2:Prop} [Mo H H' p0 q0] [Mo H H' p1 q1] [Mo H H' p2 q2] (h:H.le H') (x0:p0) (x1:p1) (x2:p2):q0∧q1∧q2:=⟨Mo.out h x0,Mo.out h x1,Mo.out h x2⟩
theorem U4 {p0 p1 p2 p3 q0 q1 q2 q3:Prop} [Mo H H' p0 q0] [Mo H H' p1 q1] [Mo H H' p2 q2] [Mo H H' p3 q3] (h:H.le H') (x0:p0) (x1:p1) (x2:p2) (x3:p3):q0∧q1∧q2∧q3:=⟨Mo.out h x0,Mo.out h x1,Mo.out h x2,Mo.out h x3⟩
theorem U5 {p0 p1 p2 p3 p4 q0 q1 q2 q3 q4:Prop} [Mo H H' p0 q0] [Mo H H' p1 q1] [Mo H H' p2 q2] [Mo H H' p3 q3] [Mo H H' p4 q4] (h:H.le H') (x0:p0) (x1:p1) (x2:p2) (x3:p3) (x4:p4):q0∧q1∧q2∧q3∧q4:=⟨Mo.out h x0,Mo.out h x1,Mo.out h x2,Mo.out h x3,Mo.out h x4⟩
theorem U6 {p0 p1 p2 p3 p4 p5 q0 q1 q2 q3 q4 q5:Prop} [Mo H H' p0 q0] [Mo H H' p1 q1] [Mo H H' p2 q2] [Mo H H' p3 q3] [Mo H H' p4 q4] [Mo H H' p5 q5] (h:H.le H') (x0:p0) (x1:p1) (x2:p2) (x3:p3) (x4:p4) (x5:p5):q0∧q1∧q2∧q3∧q4∧q5:=⟨Mo.out h x0,Mo.out h x1,Mo.out h x2,Mo.out h x3,Mo.out h x4,Mo.out h x5⟩
end
end Go.Eng

import Derived.ProofKit
import Derived.OpenShut
import Derived.ReadAgain
import Derived.Deep.DeepHandedRow
import Derived.Lib.LaidTab
import Derived.Shelf.Vars
import Derived.Test.YtlfmlodanoolhaaGreatDoorV12
set_option linter.all false
set_option maxRecDepth 200000
set_option maxHeartbeats 0
namespace Go.Proofs.YtlfmlodanoolhaaGreatDoor
section
open Go Go.RowKit Go.Proofs.Tryz
attribute [local go_sem] bc
structure KRow where
 named:Bool
 min:Int
 max:Int
 lo:Int
 hi:Int
structure SRow where
 name:Bool
 of:Bool
 x:Int
 s:Bool
 l:Bool
 els:Bool
 bind:Bool
def kindRows:List KRow:=[⟨false,0,0,0,0⟩,⟨false,0,0,0,0⟩,⟨true,0,0,0,0⟩,⟨true,2,2,0,0⟩,⟨true,1,1,0,0⟩,⟨false,1,1,1,6⟩,⟨false,2,2,11,26⟩,⟨false,3,3,0,0⟩,⟨false,1,65536,0,0⟩,⟨false,2,2,0,0⟩,⟨false,2,2,31,33⟩]
def shapeRows:List SRow:=[⟨false,false,0,false,false,false,false⟩,⟨true,false,1,false,false,false,false⟩,⟨true,false,1,false,false,false,false⟩,⟨true,false,2,false,false,false,false⟩,⟨false,false,2,false,false,false,false⟩,⟨false,false,0,true,false,false,false⟩,⟨false,false,0,true,false,false,false⟩,⟨true,true,0,false,false,false,true⟩,⟨false,false,1,false,true,true,false⟩,⟨true,true,2,false,true,false,false⟩,⟨true,false,1,false,false,false,false⟩]
def KRow.vals(a:KRow):List Value:=[.bool a.named,.int .i64 a.min,.int .i64 a.max,.int .i64 a.lo,.int .i64 a.hi]
def SRow.vals(a:SRow):List Value:=[.bool a.name,.bool a.of,.int .i64 a.x,.bool a.s,.bool a.l,.bool a.els,.bool a.bind]
structure Tabs(w:World):Prop where
 lib:LibOk w
 kinds:∀(i:Nat) (r:KRow),kindRows[i]? =some r->Cells w 1 (i*5) r.vals
 shapes:∀(i:Nat) (r:SRow),shapeRows[i]? =some r->Cells w 0 (i*7) r.vals
theorem Tabs.ext{w f:World}(h:Tabs w)(b:Ext w f):Tabs f:=⟨h.lib.ext b,λc e a=>(h.kinds c e a).ext b,λc e a=>(h.shapes c e a).ext b⟩
end
section
open Go Go.RowKit Go.ChangeShapes Go.WideShapes Go.Proofs.Tryz
theorem nC{α:Type}{l:List α}(h:l.length=5):∃a b c d e,l=[a,b,c,d,e]:=by
 match l,h with
 |[a,b,c,d,e],_=>exact⟨_,_,_,_,_,rfl⟩
def KRow.data{H:Type}(a:KRow):DataW H:=.agg [.lit (.bool a.named),.lit (.int .i64 a.min),.lit (.int .i64 a.max),.lit (.int .i64 a.lo),.lit (.int .i64 a.hi)]
def SRow.data{H:Type}(a:SRow):DataW H:=.agg [.lit (.bool a.name),.lit (.bool a.of),.lit (.int .i64 a.x),.lit (.bool a.s),.lit (.bool a.l),.lit (.bool a.els),.lit (.bool a.bind)]
theorem Ak{H:Type}:(Rows.laid_filigree_ast_kinds:DataW H)=.agg (kindRows.map KRow.data):=rfl
theorem Bj{H:Type}:(Rows.laid_filigree_ast_shapes:DataW H)=.agg (shapeRows.map SRow.data):=rfl
theorem nI:Tryz.prog.cellsOf 248=5:=by kernel_rfl
theorem pH:Tryz.prog.cellsOf 221=7:=by kernel_rfl
section
variable {H : Type} {enc : TypeId × Value → H} {w : World} {spare : Nat → Bool} {held : Bool}
theorem gc{g:Nat}{a:Value}{f:DataW H×List MemPlace}{b:Bool}(h:DataW.trod enc Tryz.prog w 0 spare held g 4 [a]=some f)(e:f.1=.lit (.bool b)):a=.bool b:=by
 obtain⟨n,c,i⟩:=DataW.trod_bool underlying4 h;simp only[List.cons.injEq,and_true] at c;subst i;simp only[DataW.lit.injEq,Lit.bool.injEq] at e;rw[c,e]
theorem iM{f:Nat}{a:Value}{e:DataW H×List MemPlace}{z:Int}(h:DataW.trod enc Tryz.prog w 0 spare held f 3 [a]=some e)(c:e.1=.lit (.int .i64 z)):a=.int .i64 z:=by
 obtain⟨n,b,g,i⟩:=DataW.trod_int underlying3 h;simp only[List.cons.injEq,and_true] at b;subst g;simp only[DataW.lit.injEq,Lit.int.injEq,true_and] at c;rw[b,c]
theorem vH{s:Nat}{b:List Value}{p:List MemPlace}{k:KRow}(h:DataW.trod enc Tryz.prog w 0 spare held s 248 b=some (k.data,p)):b=k.vals:=by
 obtain⟨D,n,-,x,t,u,a⟩:=DataW.trod_struct underlying248 h;obtain⟨y,z,A,B,C,rfl⟩:=nC (t.trans nI);obtain⟨E,F,G,I,J,rfl⟩:=nC u;have c:=a 0 _ rfl;have e:=a 1 _ rfl;have f:=a 2 _ rfl;have g:=a 3 _ rfl;have i:=a 4 _ rfl;clear a;simp[ia,mK] at c e f g i;have j:=(Prod.mk.inj x).1;simp only[KRow.data,List.map_cons,List.map_nil,DataW.agg.injEq,List.cons.injEq,and_true] at j;obtain⟨l,m,o,q,r⟩:=j;rw[gc c l.symm,iM e m.symm,iM f o.symm,iM g q.symm,iM i r.symm];rfl
theorem xD{y:Nat}{b:List Value}{p:List MemPlace}{m:SRow}(h:DataW.trod enc Tryz.prog w 0 spare held y 221 b=some (m.data,p)):b=m.vals:=by
 obtain⟨K,n,-,B,z,A,a⟩:=DataW.trod_struct underlying221 h;obtain⟨C,D,E,F,G,I,J,rfl⟩:=lh (z.trans pH);obtain⟨L,M,N,O,P,Q,R,rfl⟩:=lh A;have c:=a 0 _ rfl;have e:=a 1 _ rfl;have f:=a 2 _ rfl;have g:=a 3 _ rfl;have i:=a 4 _ rfl;have j:=a 5 _ rfl;have k:=a 6 _ rfl;clear a;simp[ia,mK] at c e f g i j k;have l:=(Prod.mk.inj B).1;simp only[SRow.data,List.map_cons,List.map_nil,DataW.agg.injEq,List.cons.injEq,and_true] at l;obtain⟨o,q,r,s,t,u,x⟩:=l;rw[gc c o.symm,gc e q.symm,iM f r.symm,gc g s.symm,gc i t.symm,gc j u.symm,gc k x.symm];rfl
theorem rz{α:Type}{data:α->DataW H}{vals:α->List Value}{n k:Nat}{t e:TypeId}(ht:Tryz.prog.underlying t=some (.array n e))(q:Tryz.prog.cellsOf e=k)
 (s:∀f b p a,DataW.trod enc Tryz.prog w 0 spare held f e b=some (data a,p)->b=vals a) {m:List α} {f:Nat} {b:List Value} {p:List MemPlace}
 (h:DataW.trod enc Tryz.prog w 0 spare held f t b=some (.agg (m.map data),p)) (i:Nat) (a:α) (r:m[i]? =some a):(b.drop (i*k)).take k=vals a:=by
 obtain⟨j,x,_,u,y,z,o⟩:=DataW.trod_array ht h;have l:=(Prod.mk.inj u).1;simp only[DataW.agg.injEq] at l;have c:(j.map (·.1))[i]? =some (data a):=by rw[<-l,List.getElem?_map,r];rfl
 have hi:i<j.length:=by
  have:=(y7t.1 c).1;simpa using this
 have g:=o i zO;rw[List.getElem?_eq_getElem hi] at g;rw[List.getElem?_map,List.getElem?_eq_getElem hi] at c;simp only[Option.map_some,Option.some.injEq] at c;rw[q] at g;exact s x _ (j[i]).2 a (by rw[g,<-c])
end
theorem pw{W:World}{g:Nat}{b:Array Value}(e:∀i,W.cell? ⟨g,i,none⟩=b[i]?){i k:Nat}{c:List Value}(h:(b.toList.drop (i*k)).take k=c):Cells W g (i*k) c:=by
 intro f v a;rw[e];rw[<-h,List.getElem?_take] at a;split at a
 ·rw[List.getElem?_drop] at a;rw[<-Array.getElem?_toList];exact a
 ·cases a
theorem gKinds : Tryz.prog.globalNamed "filigree/ast.kinds" = some 1 := by kernel_rfl
theorem gKindsT:(Tryz.prog.globals[1]?).map (·.type)=some 249:=by kernel_rfl
theorem gShapes : Tryz.prog.globalNamed "filigree/ast.shapes" = some 0 := by kernel_rfl
theorem gShapesT:(Tryz.prog.globals[0]?).map (·.type)=some 222:=by kernel_rfl
theorem vU{W:World}(h:W.ShapedOpen Tryz.prog):LibOk W:=
 cell_of_shapedOpen_int (t:=3) (zero:=#[.int .i64 0]) h (of_decide_eq_true zK) zK rfl zK zK underlying3
theorem tN:laidOutB Tryz.prog=true:=by kernel_rfl
theorem sW:mapsRowed Tryz.prog=true:=by kernel_rfl
theorem full:∀a e,a<Tryz.prog.types.size->Tryz.prog.underlying a=some (.slice e)->0<Tryz.prog.cellsOf e:=slices_full_of Tryz.prog zK
theorem ss{P:Program}{t:TypeId}(ht:P.underlying t=some .bool)(c:World){f:Func}(e:f.resultTypes=#[t]):
 ∀(j:Nat) (b:TypeId) (a:Value),f.resultTypes[j]? =some b->((Value.bool true).resultList f.resultTypes.size)[j]? =some a->Value.okWide P c .any 0 b a:=
 ok_one e rfl (okWide_bool_mk ht true)
theorem oI{P:Program}{H:Type}{enc:TypeId×Value->H}{W b:World}(c:Ext W b):∀{ts:List TypeId} {f:List Value} {ds:List (DataW H)} {ps:List MemPlace},
 DataW.TrodAll enc P W 0 (λ_=>true) true ts f ds ps->(∀p,p∈ps->p.block<W.heap.size)->DataW.TrodAll enc P b 0 (λ_=>true) true ts f ds ps
 |[],[],[],_,h,_=>h
 |_::_,_::_,_::_,_,⟨p,q,⟨n,h1⟩,h2,e⟩,hs=>
  ⟨p,q,⟨n,DataW.trod_carry n _ _ _ h1 λx a=>Below.same c (hs x (by rw[e];exact List.mem_append_left _ a))⟩,oI c h2 (λx a=>hs x (by rw[e];exact List.mem_append_right _ a)),e⟩
theorem yD{P:Program}{C:TypeId}(z:P.underlying C=some .bool)(G:laidOutB P=true)(I:mapsRowed P=true)(F:∀h e,h<P.types.size->P.underlying h=some (.slice e)->0<P.cellsOf e)
 {H:Type} {enc:TypeId×Value->H} {f:Func} {s:ChangeSpec} {W b:World} {args:Array Value} {ds gs:List (DataW H)} {m:List MemPlace} (A:s.vars=[]) (u:f.resultTypes=#[C])
 (k:∀h∈f.params.toList,h<P.types.size) (i:DataW.Whole enc P f.params.toList s.vars false W args.toList ds gs m)
 (j:s.fn H (ds++gs)={results:=[.lit (.bool true)],args:=ds}) (l:Ext W b):s.post enc P f false true false false W args (.bool true) b:=by
 have o:=i;have g:∀p,p∈m->p.block<W.heap.size:=λp k=>i.lt p k
 obtain⟨p,N,D,n,rfl,t,J⟩:=i;rw[A] at n;obtain⟨rfl,rfl⟩:=trodVars_none n;rw[List.append_nil] at o g t J;have E:=oI l D g
 have q:∀sp:Nat->Bool,(∀x∈p,sp x.block=true)->DataW.TrodAll enc P b 0 sp true f.params.toList args.toList ds p:=
  λsp L=>DataW.TrodAll.respare (kids_rows G I) F k E L
 have y:∀(c:Nat) (sp:Nat->Bool) (r:Bool),DataW.TrodAll enc P b c sp r f.resultTypes.toList ((Value.bool true).resultList f.resultTypes.size) [.lit (.bool true)] []:=by
  intro c sp r;rw[u];exact trodAll_mk1 (shut_bool z true)
 have B:∀sp:Nat->Bool,DataW.TrodVars enc P b sp s.vars [] []:=by
  intro sp;rw[A];exact rfl
 have K:∀x∈p,(λc=>decide (c<W.heap.size)) x.block=true:=λx a=>by simpa using g x a
 refine⟨ds,[],p,[],p,[],o,?_,?_,?_,World.keptBut_mono (λx a=>⟨a,Or.inr (by simpa using a)⟩) (Below.frame l (·∈p)),λ_=>?_⟩
 ·rw[j];exact y _ _ _
 ·rw[j];exact q _ K
 ·rw[j];exact B _
 ·refine⟨ss z b u,[.lit (.bool true)]++ds,[],([]++p)++[],⟨[]++p,[],?_,?_,rfl,?_,?_⟩,?_⟩
  ·exact trodAll_append (q _ (λ_ _=>rfl)) (y _ _ _)
  ·exact B _
  ·intro c M a;rw[l.frozen (g _ (by simpa using a))];exact t c M (by simpa using a)
  ·intro ha;cases ha
  ·intro x a _;simpa using a
theorem uj:ownKnob Tryz.prog.godebug=none:=by kernel_rfl
theorem wu{P:Program}{H:Type}{enc:TypeId×Value->H}{W:World}{base:Nat}{ts:Array TypeId}{args:Array Value}{t:TypeId}{v:Value}{d:DataW H}{p:List MemPlace}{fs:Array Field}{sp:Nat->Bool}{held:Bool}
 (f:∀(j:Nat) t v,ts[j]? =some t->args[j]? =some v->Value.okWide P W .any base t v) (j:Nat) (e:ts[j]? =some t) (ha:args[j]? =some v) (ht:P.underlying t=some (.struct fs))
 (h:DataW.Trod enc P W 0 sp held t v d p):∃a b,v=.agg a/\DataW.trod enc P W 0 sp held b t a.toList=some (d,p):=by
 obtain⟨a,rfl,-⟩:=okWide_struct ht (f j t v e ha);obtain⟨b,c⟩:=h;exact⟨a,b,rfl,c⟩
theorem ti{P:Program}{H:Type}{enc:TypeId×Value->H}{W:World}{base:Nat}{ts:Array TypeId}{args:Array Value}{t:TypeId}{v:Value}{d:DataW H}{p:List MemPlace}{sp:Nat->Bool}{held:Bool}
 (c:∀(j:Nat) t v,ts[j]? =some t->args[j]? =some v->Value.okWide P W .any base t v) (j:Nat) (b:ts[j]? =some t) (ha:args[j]? =some v) (ht:P.underlying t=some .string)
 (h:DataW.Trod enc P W 0 sp held t v d p):∃s:ByteArray,v=.string s/\d=.lit (.string s.data.toList):=by
 have i:=c j t v b ha;obtain⟨f,a⟩:=h;obtain⟨s,g,e,-⟩:=DataW.trod_string ht a;refine⟨s,?_,(Prod.mk.inj e).1⟩;cases v<;>simp_all [Value.cells,Value.okWide,Cell.okWide,Cell.ok]
section
variable {H : Type} {enc : TypeId × Value → H} {W : World} {base : Nat} {ts : Array TypeId} {args : Array Value} {v : Value} {d : DataW H} {p : List MemPlace} {sp : Nat → Bool} {held : Bool}
theorem yz(r:∀(j:Nat) c v,ts[j]? =some c->args[j]? =some v->Value.okWide Tryz.prog W .any base c v)(j:Nat)(o:ts[j]? =some 24)(ha:args[j]? =some v)
 (h:DataW.Trod enc Tryz.prog W 0 sp held 24 v d p) (m:Rows.uptoBulk d<=1048576):
 ∃(f:List Mdl) (a:Value),v=.agg #[a]/\Sl (RM W W.heap.size) W W.heap.size 4 f a/\(∀e,e∈f->VM e)/\aa ar f<=1048576:=by
 obtain⟨g,i,rfl,n⟩:=wu r j o ha underlying24 h;obtain⟨f,a,b,q,k,s⟩:=sv i _ d p m n;obtain⟨l⟩:=g;simp only at b;subst b;exact⟨f,a,rfl,q,k,zO⟩
theorem ww(e:∀(j:Nat) a v,ts[j]? =some a->args[j]? =some v->Value.okWide Tryz.prog W .any base a v)(j:Nat)(c:ts[j]? =some 9)(ha:args[j]? =some v)
 (h:DataW.Trod enc Tryz.prog W 0 sp held 9 v d p) (b:Rows.uptoBulk d<=1048576):
 ∃(s:ByteArray),v=.string s/\s.size<=1048576:=by
 obtain⟨s,rfl,rfl⟩:=ti e j c ha underlying9 h;refine⟨s,rfl,?_⟩;simp[Rows.uptoBulk] at b;omega
end
theorem yS{H:Type}{ds:List (DataW H)}(h:Rows.uptoSmall H ds=true):Rows.uptoBulkAll ds<=1048576:=of_decide_eq_true h
def xX:Array Value:=(kindRows.flatMap KRow.vals).toArray
def AC:Array Value:=(shapeRows.flatMap SRow.vals).toArray
def jl(a:Array Value):Obj->Obj
 |.cells _ t frozen=>.cells a t frozen
 |o=>o
def lu:Value:=.agg #[.slice none 0 0]
def te{H:Type}:DataW H:=.agg [.nil]
end
section
open Go Go.RowKit Go.Proofs.Tryz
attribute [local go_sem] bc
theorem gH{α:Type}{P:α->Prop}{l:List α}{k:Nat}(c:k<l.length)(h:∀b,b∈l.take k->P b)(e:P l[k]):∀b,b∈l.take (k+1)->P b:=by
 intro b a;rw[List.take_succ_eq_append_getElem c,List.mem_append] at a;rcases a with a|a
 ·exact h b a
 ·simp at a;subst a;exact e
theorem ql(f:Nat)(C:Enters Tryz.prog f)(P:X->Prop)(B:Nat)(l:List X)(w:World)(D:∀x,x∈l->∀(b:World) (t:List Value),Ext w b->RX b B x t->B<=b.heap.size->
 Calls Tryz.prog f #[.agg t.toArray] b λe a1=>e=.returned (.bool (yes (P x)))/\Ext b a1)
 (v:Value) (N:Sl (RX w B) w B 6 l v) (J:B<=w.heap.size) (c2:l.length<=1000000000):
 Calls Tryz.prog 173 #[v,.func (.func f) #[] #[]] w λe b=>e=.returned (.bool (yes (∀x,x∈l->P x)))/\Ext w b:=by
 obtain⟨a2,b0,rfl,b9,E⟩:=N;have s:=Hd D;have c0:=C.o;clear D C
 go_in
 go_wp2_with fail
 go_loopw [9] (λr wr=>∃a:Nat,a<=l.length/\r=.int .i64 a/\(∀h,h∈l.take a->P h)/\Ext w wr) (λr _=>l.length - (intOf r).toNat)
 case atStart=>exact⟨0,aA _,rfl,λh q=>by simp at q,af _⟩
 case round=>
  obtain⟨a,c1,rfl,c,g⟩:=hrel;by_cases i:a<l.length
  ·have O:=Hd (s.o l[a] (an i));obtain⟨a3,o,T,U,V,Y,Z,a0,rfl,b8,y,u,c3,c4,c5,c6,c7,c8⟩:=E.open6 i;obtain⟨b1,b2,b3,b4,b5,b6⟩:=(u.ext g).get6;have S:=Hd (λk=>gH i c k);have R:=Hd (λ(k:¬P l[a])=>yes_no.2 (λ(ha:∀x,x∈l->P x)=>k (ha _ (an i))));have M:=Hd (y.ext g J);clear u E y c s;generalize l[a]=h at*;obtain⟨I,z,F,A⟩:=aV wr T U V Y Z a0 40;have b7:=z.symm;obtain⟨a4,a5,a6,a7,a8,a9⟩:=A.get6;have n:=g.trans F;have L:B<=I.heap.size:=by have:=n.size;omega
   have K:B<=wr.heap.size:=by have:=g.size;omega
   clear A z;go_wp2_with fail
   refine(O.o _ _ n (M.o.ext F K) L).mono ?_;rintro e c9 ⟨rfl,q⟩;have G:=n.trans q;by_cases j:P h
   ·rw[yes_iff.2 j];have m:=Hd (S.o j);go_wp2_with fail
    go_roundw;case rel=>exact⟨a+1,zO,by go_num,m.o,G⟩
    case measure=>simp[intOf];omega
   ·rw[yes_no.2 j];have m:=Hd (R.o j);go_wp2_with fail
    go_ret;exact⟨by rw[m.o];rfl,G⟩
  ·have:a=l.length:=by omega
   subst this;have Q:=Hd (yes_iff.2 (show∀x,x∈l->P x by rw[List.take_length] at c;exact c));clear c;go_wp2_with fail
   go_ret;exact⟨by rw[Q.o];rfl,g⟩
theorem uB(f:Nat)(C:Enters Tryz.prog f)(P:S->Prop)(B:Nat)(l:List S)(w:World)(D:∀x,x∈l->∀(b:World) (t:List Value),Ext w b->RS b B x t->B<=b.heap.size->
 Calls Tryz.prog f #[.agg t.toArray] b λe Z=>e=.returned (.bool (yes (P x)))/\Ext b Z)
 (v:Value) (N:Sl (RS w B) w B 4 l v) (J:B<=w.heap.size) (b6:l.length<=1000000000):
 Calls Tryz.prog 176 #[v,.func (.func f) #[] #[]] w λe b=>e=.returned (.bool (yes (∀x,x∈l->P x)))/\Ext w b:=by
 obtain⟨a0,a6,rfl,b3,E⟩:=N;have s:=Hd D;have b4:=C.o;clear D C
 go_in
 go_wp2_with fail
 go_loopw [9] (λr wr=>∃a:Nat,a<=l.length/\r=.int .i64 a/\(∀h,h∈l.take a->P h)/\Ext w wr) (λr _=>l.length - (intOf r).toNat)
 case atStart=>exact⟨0,aA _,rfl,λh q=>by simp at q,af _⟩
 case round=>
  obtain⟨a,b5,rfl,c,g⟩:=hrel;by_cases i:a<l.length
  ·have O:=Hd (s.o l[a] (an i));obtain⟨a1,o,U,V,X,Y,rfl,b2,y,u,b7,b8,b9,c0⟩:=E.open4 i;obtain⟨a7,a8,a9,b0⟩:=(u.ext g).get4;have T:=Hd (λk=>gH i c k);have R:=Hd (λ(k:¬P l[a])=>yes_no.2 (λ(ha:∀x,x∈l->P x)=>k (ha _ (an i))));have M:=Hd (y.ext g J);clear u E y c s;generalize l[a]=h at*;obtain⟨I,z,F,A⟩:=bK wr U V X Y 177;have b1:=z.symm;obtain⟨a2,a3,a4,a5⟩:=A.get4;have n:=g.trans F;have L:B<=I.heap.size:=by have:=n.size;omega
   have K:B<=wr.heap.size:=by have:=g.size;omega
   clear A z;go_wp2_with fail
   refine(O.o _ _ n (M.o.ext F K) L).mono ?_;rintro e c1 ⟨rfl,q⟩;have G:=n.trans q;by_cases j:P h
   ·rw[yes_iff.2 j];have m:=Hd (T.o j);go_wp2_with fail
    go_roundw;case rel=>exact⟨a+1,zO,by go_num,m.o,G⟩
    case measure=>simp[intOf];omega
   ·rw[yes_no.2 j];have m:=Hd (R.o j);go_wp2_with fail
    go_ret;exact⟨by rw[m.o];rfl,G⟩
  ·have:a=l.length:=by omega
   subst this;have Q:=Hd (yes_iff.2 (show∀x,x∈l->P x by rw[List.take_length] at c;exact c));clear c;go_wp2_with fail
   go_ret;exact⟨by rw[Q.o];rfl,g⟩
theorem zt(f:Nat)(C:Enters Tryz.prog f)(P:Bnd->Prop)(B:Nat)(l:List Bnd)(w:World)(D:∀x,x∈l->∀(b:World) (t:List Value),Ext w b->RB b B x t->B<=b.heap.size->
 Calls Tryz.prog f #[.agg t.toArray] b λe a1=>e=.returned (.bool (yes (P x)))/\Ext b a1)
 (v:Value) (N:Sl (RB w B) w B 7 l v) (J:B<=w.heap.size) (c4:l.length<=1000000000):
 Calls Tryz.prog 136 #[v,.func (.func f) #[] #[]] w λe b=>e=.returned (.bool (yes (∀x,x∈l->P x)))/\Ext w b:=by
 obtain⟨a2,b1,rfl,c1,E⟩:=N;have s:=Hd D;have c2:=C.o;clear D C
 go_in
 go_wp2_with fail
 go_loopw [9] (λr wr=>∃a:Nat,a<=l.length/\r=.int .i64 a/\(∀h,h∈l.take a->P h)/\Ext w wr) (λr _=>l.length - (intOf r).toNat)
 case atStart=>exact⟨0,aA _,rfl,λh q=>by simp at q,af _⟩
 case round=>
  obtain⟨a,c3,rfl,c,g⟩:=hrel;by_cases i:a<l.length
  ·have O:=Hd (s.o l[a] (an i));obtain⟨a3,o,T,U,V,X,Y,Z,a0,rfl,c0,y,u,c5,c6,c7,c8,c9,d0,d1⟩:=E.open7 i;obtain⟨b2,b3,b4,b5,b6,b7,b8⟩:=(u.ext g).get7;have S:=Hd (λk=>gH i c k);have R:=Hd (λ(k:¬P l[a])=>yes_no.2 (λ(ha:∀x,x∈l->P x)=>k (ha _ (an i))));have M:=Hd (y.ext g J);clear u E y c s;generalize l[a]=h at*;obtain⟨I,z,F,A⟩:=fF wr T U V X Y Z a0 45;have b9:=z.symm;obtain⟨a4,a5,a6,a7,a8,a9,b0⟩:=A.get7;have n:=g.trans F;have L:B<=I.heap.size:=by have:=n.size;omega
   have K:B<=wr.heap.size:=by have:=g.size;omega
   clear A z;go_wp2_with fail
   refine(O.o _ _ n (M.o.ext F K) L).mono ?_;rintro e d2 ⟨rfl,q⟩;have G:=n.trans q;by_cases j:P h
   ·rw[yes_iff.2 j];have m:=Hd (S.o j);go_wp2_with fail
    go_roundw;case rel=>exact⟨a+1,zO,by go_num,m.o,G⟩
    case measure=>simp[intOf];omega
   ·rw[yes_no.2 j];have m:=Hd (R.o j);go_wp2_with fail
    go_ret;exact⟨by rw[m.o];rfl,G⟩
  ·have:a=l.length:=by omega
   subst this;have Q:=Hd (yes_iff.2 (show∀x,x∈l->P x by rw[List.take_length] at c;exact c));clear c;go_wp2_with fail
   go_ret;exact⟨by rw[Q.o];rfl,g⟩
theorem zw(f:Nat)(C:Enters Tryz.prog f)(P:Prt->Prop)(B:Nat)(l:List Prt)(w:World)(D:∀x,x∈l->∀(b:World) (t:List Value),Ext w b->RP b B x t->B<=b.heap.size->
 Calls Tryz.prog f #[.agg t.toArray] b λe a2=>e=.returned (.bool (yes (P x)))/\Ext b a2)
 (v:Value) (N:Sl (RP w B) w B 8 l v) (J:B<=w.heap.size) (c7:l.length<=1000000000):
 Calls Tryz.prog 138 #[v,.func (.func f) #[] #[]] w λe b=>e=.returned (.bool (yes (∀x,x∈l->P x)))/\Ext w b:=by
 obtain⟨a3,b3,rfl,c4,E⟩:=N;have s:=Hd D;have c5:=C.o;clear D C
 go_in
 go_wp2_with fail
 go_loopw [9] (λr wr=>∃a:Nat,a<=l.length/\r=.int .i64 a/\(∀h,h∈l.take a->P h)/\Ext w wr) (λr _=>l.length - (intOf r).toNat)
 case atStart=>exact⟨0,aA _,rfl,λh q=>by simp at q,af _⟩
 case round=>
  obtain⟨a,c6,rfl,c,g⟩:=hrel;by_cases i:a<l.length
  ·have O:=Hd (s.o l[a] (an i));obtain⟨a4,o,T,U,V,X,Y,Z,a0,a1,rfl,c3,y,u,c8,c9,d0,d1,d2,d3,d4,d5⟩:=E.open8 i;obtain⟨b4,b5,b6,b7,b8,b9,c0,c1⟩:=(u.ext g).get8;have S:=Hd (λk=>gH i c k);have R:=Hd (λ(k:¬P l[a])=>yes_no.2 (λ(ha:∀x,x∈l->P x)=>k (ha _ (an i))));have M:=Hd (y.ext g J);clear u E y c s;generalize l[a]=h at*;obtain⟨I,z,F,A⟩:=de wr T U V X Y Z a0 a1 42;have c2:=z.symm;obtain⟨a5,a6,a7,a8,a9,b0,b1,b2⟩:=A.get8;have n:=g.trans F;have L:B<=I.heap.size:=by have:=n.size;omega
   have K:B<=wr.heap.size:=by have:=g.size;omega
   clear A z;go_wp2_with fail
   refine(O.o _ _ n (M.o.ext F K) L).mono ?_;rintro e d6 ⟨rfl,q⟩;have G:=n.trans q;by_cases j:P h
   ·rw[yes_iff.2 j];have m:=Hd (S.o j);go_wp2_with fail
    go_roundw;case rel=>exact⟨a+1,zO,by go_num,m.o,G⟩
    case measure=>simp[intOf];omega
   ·rw[yes_no.2 j];have m:=Hd (R.o j);go_wp2_with fail
    go_ret;exact⟨by rw[m.o];rfl,G⟩
  ·have:a=l.length:=by omega
   subst this;have Q:=Hd (yes_iff.2 (show∀x,x∈l->P x by rw[List.take_length] at c;exact c));clear c;go_wp2_with fail
   go_ret;exact⟨by rw[Q.o];rfl,g⟩
theorem zu(f:Nat)(C:Enters Tryz.prog f)(P:Itm->Prop)(B:Nat)(l:List Itm)(w:World)(D:∀x,x∈l->∀(b:World) (t:List Value),Ext w b->RI b B x t->B<=b.heap.size->
 Calls Tryz.prog f #[.agg t.toArray] b λe a3=>e=.returned (.bool (yes (P x)))/\Ext b a3)
 (v:Value) (N:Sl (RI w B) w B 9 l v) (J:B<=w.heap.size) (d0:l.length<=1000000000):
 Calls Tryz.prog 139 #[v,.func (.func f) #[] #[]] w λe b=>e=.returned (.bool (yes (∀x,x∈l->P x)))/\Ext w b:=by
 obtain⟨a4,b5,rfl,c7,E⟩:=N;have s:=Hd D;have c8:=C.o;clear D C
 go_in
 go_wp2_with fail
 go_loopw [9] (λr wr=>∃a:Nat,a<=l.length/\r=.int .i64 a/\(∀h,h∈l.take a->P h)/\Ext w wr) (λr _=>l.length - (intOf r).toNat)
 case atStart=>exact⟨0,aA _,rfl,λh q=>by simp at q,af _⟩
 case round=>
  obtain⟨a,c9,rfl,c,g⟩:=hrel;by_cases i:a<l.length
  ·have O:=Hd (s.o l[a] (an i));obtain⟨a5,o,T,U,V,X,Y,Z,a0,a1,a2,rfl,c6,y,u,d1,d2,d3,d4,d5,d6,d7,d8,d9⟩:=E.open9 i;obtain⟨b6,b7,b8,b9,c0,c1,c2,c3,c4⟩:=(u.ext g).get9;have S:=Hd (λk=>gH i c k);have R:=Hd (λ(k:¬P l[a])=>yes_no.2 (λ(ha:∀x,x∈l->P x)=>k (ha _ (an i))));have M:=Hd (y.ext g J);clear u E y c s;generalize l[a]=h at*;obtain⟨I,z,F,A⟩:=bM wr T U V X Y Z a0 a1 a2 37;have c5:=z.symm;obtain⟨a6,a7,a8,a9,b0,b1,b2,b3,b4⟩:=A.get9;have n:=g.trans F;have L:B<=I.heap.size:=by have:=n.size;omega
   have K:B<=wr.heap.size:=by have:=g.size;omega
   clear A z;go_wp2_with fail
   refine(O.o _ _ n (M.o.ext F K) L).mono ?_;rintro e e0 ⟨rfl,q⟩;have G:=n.trans q;by_cases j:P h
   ·rw[yes_iff.2 j];have m:=Hd (S.o j);go_wp2_with fail
    go_roundw;case rel=>exact⟨a+1,zO,by go_num,m.o,G⟩
    case measure=>simp[intOf];omega
   ·rw[yes_no.2 j];have m:=Hd (R.o j);go_wp2_with fail
    go_ret;exact⟨by rw[m.o];rfl,G⟩
  ·have:a=l.length:=by omega
   subst this;have Q:=Hd (yes_iff.2 (show∀x,x∈l->P x by rw[List.take_length] at c;exact c));clear c;go_wp2_with fail
   go_ret;exact⟨by rw[Q.o];rfl,g⟩
theorem zv(f:Nat)(C:Enters Tryz.prog f)(P:Mdl->Prop)(B:Nat)(l:List Mdl)(w:World)(D:∀x,x∈l->∀(b:World) (t:List Value),Ext w b->RM b B x t->B<=b.heap.size->
 Calls Tryz.prog f #[.agg t.toArray] b λe Y=>e=.returned (.bool (yes (P x)))/\Ext b Y)
 (v:Value) (N:Sl (RM w B) w B 4 l v) (J:B<=w.heap.size) (b5:l.length<=1000000000):
 Calls Tryz.prog 90 #[v,.func (.func f) #[] #[]] w λe b=>e=.returned (.bool (yes (∀x,x∈l->P x)))/\Ext w b:=by
 obtain⟨Z,a5,rfl,b2,E⟩:=N;have s:=Hd D;have b3:=C.o;clear D C
 go_in
 go_wp2_with fail
 go_loopw [9] (λr wr=>∃a:Nat,a<=l.length/\r=.int .i64 a/\(∀h,h∈l.take a->P h)/\Ext w wr) (λr _=>l.length - (intOf r).toNat)
 case atStart=>exact⟨0,aA _,rfl,λh q=>by simp at q,af _⟩
 case round=>
  obtain⟨a,b4,rfl,c,g⟩:=hrel;by_cases i:a<l.length
  ·have O:=Hd (s.o l[a] (an i));obtain⟨a0,o,T,U,V,X,rfl,b1,y,u,b6,b7,b8,b9⟩:=E.open4 i;obtain⟨a6,a7,a8,a9⟩:=(u.ext g).get4;have S:=Hd (λk=>gH i c k);have R:=Hd (λ(k:¬P l[a])=>yes_no.2 (λ(ha:∀x,x∈l->P x)=>k (ha _ (an i))));have M:=Hd (y.ext g J);clear u E y c s;generalize l[a]=h at*;obtain⟨I,z,F,A⟩:=bK wr T U V X 30;have b0:=z.symm;obtain⟨a1,a2,a3,a4⟩:=A.get4;have n:=g.trans F;have L:B<=I.heap.size:=by have:=n.size;omega
   have K:B<=wr.heap.size:=by have:=g.size;omega
   clear A z;go_wp2_with fail
   refine(O.o _ _ n (M.o.ext F K) L).mono ?_;rintro e c0 ⟨rfl,q⟩;have G:=n.trans q;by_cases j:P h
   ·rw[yes_iff.2 j];have m:=Hd (S.o j);go_wp2_with fail
    go_roundw;case rel=>exact⟨a+1,zO,by go_num,m.o,G⟩
    case measure=>simp[intOf];omega
   ·rw[yes_no.2 j];have m:=Hd (R.o j);go_wp2_with fail
    go_ret;exact⟨by rw[m.o];rfl,G⟩
  ·have:a=l.length:=by omega
   subst this;have Q:=Hd (yes_iff.2 (show∀x,x∈l->P x by rw[List.take_length] at c;exact c));clear c;go_wp2_with fail
   go_ret;exact⟨by rw[Q.o];rfl,g⟩
def je(a:KRow)(n:Int)(len w v:Int)(s:ByteArray):Prop:=a.min<=len/\len<=a.max/\a.lo<=n/\n<=a.hi/\w=0/\v=0/\(a.named=true/\bn s\/a.named=false/\s.size=0)
theorem sR(k:Nat)(h:KRow)(q:kindRows[k]? =some h)(c0:2<=k)(c1:k<=10)(a:ByteArray)(n i j:Int)(C:Option Addr)(len:Nat)(u:Nat)(c2:len<=1000000000)(Y:a.size<4294967281)(w:World)(m:Tabs w):
 Calls Tryz.prog 172 #[.agg #[.int .i64 k,.string a,.int .i64 n,.int .i64 i,.int .u64 j,.slice C len u]] w λe s=>e=.returned (.bool (yes (je h n len i j a)))/\Ext w s:=by
 obtain⟨B,r⟩:∃B,B=yes (je h n len i j a):=⟨_,rfl⟩;rw[<-r];obtain⟨A,a0,a1,lo,hi⟩:=h;have J:=Hd r;have t:=Hd m;clear r;obtain⟨D,E,F,G,I⟩:=Cells.later5 (m.kinds k _ q);have b9:=Hd q;clear q m;obtain⟨a4,x,b7,c,V,M,N,O,P,Q,R⟩:=cA w (.int .i64 k) (.string a) (.int .i64 n) (.int .i64 i) (.int .u64 j) (.slice C len u) 40;have D:=am D c;have E:=am E c;have F:=am F c;have G:=am G c;have I:=am I c;obtain⟨K,b6,b8,z,X,b1,b2,b3,b4,b5⟩:=nx x.w (.bool A) (.int .i64 a0) (.int .i64 a1) (.int .i64 lo) (.int .i64 hi) 248;have b:=x.ext.trans z;have a5:=am M b;have a6:=am N b;have a7:=am O b;have a8:=am P b;have a9:=am Q b;have b0:=am R b;have y:=c.trans b;have l:=Hd (show ECalls Tryz.prog 134 #[.string a] K (.bool (dT a)) from λs Z=>eN a s ((t.o.ext (y.trans Z)).lib) Y);clear c z b V X t;by_cases g:bn a
 all_goals
  first|rw[nameOk_iff.2 g] at l|rw[il g] at l
  have a3:=Hd g;clear g;by_cases f:a.size=0
  all_goals
   first|have U:=fB f|have U:=fw f
   have a2:=Hd f;clear f;cases A
   all_goals
    go_in
    go_wp2_with (first|(go_at_call 134;refine(l.o.at_ _).mono ?_;rintro _ _ ⟨rfl,e,rfl⟩))
    all_goals
     go_ret;refine⟨?_,y.trans (ag _)⟩;rw[J.o];refine congrArg (λL=>Ending.returned (Value.bool L)) ?_;rw[Bool.eq_iff_iff,yes_iff];unfold je;have S:=a3.o;have T:=a2.o;simp[S,T] at*;try omega
def dU(n len w v:Int)(s:ByteArray):Prop:=len=0/\n=0/\s.size=0/\0<=w/\w<=64/\(w=0\/w=64\/v<2 ^ w.toNat)
inductive NumCase (wd xv:Int) (nm:ByteArray):Prop
 |name (h:nm.toList.isEmpty=false) (hr:∀n len,¬dU n len wd xv nm)
 |low (h:nm.toList.isEmpty=true) (h1:decide (0<=wd)=false) (hr:∀n len,¬dU n len wd xv nm)
 |high (h:nm.toList.isEmpty=true) (h1:0<=wd) (h2:decide (wd<=64)=false) (hr:∀n len,¬dU n len wd xv nm)
 |zero (h:nm.toList.isEmpty=true) (h1:wd=0) (hr:∀n len,dU n len wd xv nm↔len=0/\n=0)
 |full (h:nm.toList.isEmpty=true) (h1:wd=64) (hr:∀n len,dU n len wd xv nm↔len=0/\n=0)
 |fits (h:nm.toList.isEmpty=true) (h1:0<=wd) (h2:wd<=64) (h3:(wd==0)=false) (h4:(wd==64)=false) (hp:((2:Int) ^ wd.toNat) % 18446744073709551616=2 ^ wd.toNat) (h5:xv<2 ^ wd.toNat) (hr:∀n len,dU n len wd xv nm↔len=0/\n=0)
 |over (h:nm.toList.isEmpty=true) (h1:0<=wd) (h2:wd<=64) (h3:(wd==0)=false) (h4:(wd==64)=false) (hp:((2:Int) ^ wd.toNat) % 18446744073709551616=2 ^ wd.toNat) (h5:¬xv<2 ^ wd.toNat) (hr:∀n len,¬dU n len wd xv nm)
theorem Bn(n:Nat)(h:n<64):((2:Int) ^ n) % 18446744073709551616=2 ^ n:=by
 have a:(2:Nat) ^ n<2 ^ 64:=Nat.pow_lt_pow_right zD h;have b:(2:Nat) ^ 64=18446744073709551616:=by decide
 have c:((2:Int) ^ n)=((2 ^ n:Nat):Int):=by simp
 rw[c];rw[b] at a;generalize (2:Nat) ^ n=p at*;omega
theorem uc(b m:Int)(l:ByteArray):NumCase b m l:=by
 by_cases g:l.size=0
 ·have e:=fB g;by_cases c:0<=b
  ·by_cases f:b<=64
   ·by_cases h:b=0
    ·exact .zero e h (λn len=>by unfold dU;omega)
    ·by_cases i:b=64
     ·exact .full e i (λn len=>by unfold dU;omega)
     ·have k:=Bn b.toNat zO;by_cases j:m<2 ^ b.toNat
      ·exact .fits e c f (by simpa using h) (by simpa using i) k j (λn len=>by unfold dU;constructor;exact λa=>⟨a.1,a.2.1⟩;exact λa=>⟨a.1,a.2,g,c,f,.inr (.inr j)⟩)
      ·exact .over e c f (by simpa using h) (by simpa using i) k j (λn len a=>by
        rcases a.2.2.2.2.2 with a|a|a
        ·exact h a
        ·exact i a
        ·exact j a)
   ·exact .high e c (by simpa using f) (λn len a=>f a.2.2.2.2.1)
  ·exact .low e (by simpa using c) (λn len a=>c a.2.2.2.1)
 ·exact .name (fw g) (λn len a=>g a.2.2.1)
theorem sQ(x:ByteArray)(n y z:Int)(N:Option Addr)(len:Nat)(C:Nat)(c3:len<=1000000000)(w:World)(F:Tabs w):
 Calls Tryz.prog 172 #[.agg #[.int .i64 1,.string x,.int .i64 n,.int .i64 y,.int .u64 z,.slice N len C]] w λe a8=>e=.returned (.bool (yes (dU n len y z x)))/\Ext w a8:=by
 obtain⟨M,B⟩:∃M,M=yes (dU n len y z x):=⟨_,rfl⟩;rw[<-B];have h:=Hd B;clear B
 obtain⟨A,t,u,lo,hi,J,K,I,G,a4⟩:∃(A:Bool) (t u lo hi:Int),t=0/\u=0/\lo=0/\hi=0/\Cells w 1 (1*5) [.bool A,.int .i64 t,.int .i64 u,.int .i64 lo,.int .i64 hi]:=
  ⟨false,0,0,0,0,rfl,rfl,rfl,rfl,F.kinds 1 _ rfl⟩
 have i:=Hd (aq J (aq K (aq I G)));clear J K I G;obtain⟨O,P,Q,R,S⟩:=Cells.later5 a4;clear F;obtain⟨s,D,c1,m,a6,U,V,X,Y,Z,a0⟩:=cA w (.int .i64 1) (.string x) (.int .i64 n) (.int .i64 y) (.int .u64 z) (.slice N len C) 40;have O:∀e:Later s,e.w.cell? ⟨1,5,none⟩=some (.bool A):=am O m;have P:∀e:Later s,e.w.cell? ⟨1,6,none⟩=some (.int .i64 t):=am P m;have Q:∀e:Later s,e.w.cell? ⟨1,7,none⟩=some (.int .i64 u):=am Q m;have R:∀e:Later s,e.w.cell? ⟨1,8,none⟩=some (.int .i64 lo):=am R m;have S:∀e:Later s,e.w.cell? ⟨1,9,none⟩=some (.int .i64 hi):=am S m;obtain⟨j,c0,c2,L,a7,b5,b6,b7,b8,b9⟩:=nx D.w (.bool A) (.int .i64 t) (.int .i64 u) (.int .i64 lo) (.int .i64 hi) 248;have g:=D.ext.trans L;have a9:=am U g;have b0:=am V g;have b1:=am X g;have b2:=am Y g;have b3:=am Z g;have b4:=am a0 g;have l:=m.trans g;clear m L g a6 a7;have T:=uc y z x;cases T;case name q a=>
  have b:=Hd a;clear a
  go_in
  go_wp2_with fail
  all_goals
   first
    |go_ret
    |(refine dM (W:=j) zK zK (ag _) ?_
      repeat (go_big_quiet_step (fail))
      refine wpQuiet_nil ?_;rintro _ ⟨e,rfl⟩;go_wp2_with fail
      go_ret)
  all_goals
   refine⟨?_,l.trans (ag _)⟩;rw[h.o];refine congrArg (λc=>Ending.returned (Value.bool c)) ?_;rw[Bool.eq_iff_iff,yes_iff];have f:=b.o n (len:Int);have r:=i.o;simp[f];try omega
 case low q k a=>
  have b:=Hd a;clear a
  go_in
  go_wp2_with fail
  all_goals
   first
    |go_ret
    |(refine dM (W:=j) zK zK (ag _) ?_
      repeat (go_big_quiet_step (fail))
      refine wpQuiet_nil ?_;rintro _ ⟨e,rfl⟩;go_wp2_with fail
      go_ret)
  all_goals
   refine⟨?_,l.trans (ag _)⟩;rw[h.o];refine congrArg (λc=>Ending.returned (Value.bool c)) ?_;rw[Bool.eq_iff_iff,yes_iff];have f:=b.o n (len:Int);have r:=i.o;simp[f];try omega
 case high q k E a=>
  have b:=Hd a;clear a
  go_in
  go_wp2_with fail
  all_goals
   first
    |go_ret
    |(refine dM (W:=j) zK zK (ag _) ?_
      repeat (go_big_quiet_step (fail))
      refine wpQuiet_nil ?_;rintro _ ⟨e,rfl⟩;go_wp2_with fail
      go_ret)
  all_goals
   refine⟨?_,l.trans (ag _)⟩;rw[h.o];refine congrArg (λc=>Ending.returned (Value.bool c)) ?_;rw[Bool.eq_iff_iff,yes_iff];have f:=b.o n (len:Int);have r:=i.o;simp[f];try omega
 case zero q k a=>
  have b:=Hd a;clear a;subst k
  go_in
  go_wp2_with fail
  all_goals
   first
    |go_ret
    |(refine dM (W:=j) zK zK (ag _) ?_
      repeat (go_big_quiet_step (fail))
      refine wpQuiet_nil ?_;rintro _ ⟨e,rfl⟩;go_wp2_with fail
      go_ret)
  all_goals
   refine⟨?_,l.trans (ag _)⟩;rw[h.o];refine congrArg (λc=>Ending.returned (Value.bool c)) ?_;rw[Bool.eq_iff_iff,yes_iff];have f:=b.o n (len:Int);have r:=i.o;simp[f];try omega
 case full q k a=>
  have b:=Hd a;clear a;subst k
  go_in
  go_wp2_with fail
  all_goals
   first
    |go_ret
    |(refine dM (W:=j) zK zK (ag _) ?_
      repeat (go_big_quiet_step (fail))
      refine wpQuiet_nil ?_;rintro _ ⟨e,rfl⟩;go_wp2_with fail
      go_ret)
  all_goals
   refine⟨?_,l.trans (ag _)⟩;rw[h.o];refine congrArg (λc=>Ending.returned (Value.bool c)) ?_;rw[Bool.eq_iff_iff,yes_iff];have f:=b.o n (len:Int);have r:=i.o;simp[f];try omega
 case fits q k E a1 a2 a5 a3 a=>
  have b:=Hd a;clear a
  go_in
  go_wp2_with fail
  all_goals
   first
    |go_ret
    |(refine dM (W:=j) zK zK (ag _) ?_
      repeat (go_big_quiet_step (fail))
      refine wpQuiet_nil ?_;rintro _ ⟨e,rfl⟩;go_wp2_with fail
      go_ret)
  all_goals
   refine⟨?_,l.trans (ag _)⟩;rw[h.o];refine congrArg (λc=>Ending.returned (Value.bool c)) ?_;rw[Bool.eq_iff_iff,yes_iff];have f:=b.o n (len:Int);have r:=i.o;simp[f];try omega
 case over q k E a1 a2 a5 a3 a=>
  have b:=Hd a;clear a
  go_in
  go_wp2_with fail
  all_goals
   first
    |go_ret
    |(refine dM (W:=j) zK zK (ag _) ?_
      repeat (go_big_quiet_step (fail))
      refine wpQuiet_nil ?_;rintro _ ⟨e,rfl⟩;go_wp2_with fail
      go_ret)
  all_goals
   refine⟨?_,l.trans (ag _)⟩;rw[h.o];refine congrArg (λc=>Ending.returned (Value.bool c)) ?_;rw[Bool.eq_iff_iff,yes_iff];have f:=b.o n (len:Int);have r:=i.o;simp[f];try omega
end

import Derived.Test.YtlfmlodanoolhaaGreatDoorE4
import Derived.Test.YtlfmlodanoolhaaGreatDoorE12
set_option linter.all false
set_option maxRecDepth 200000
set_option maxHeartbeats 32000000
namespace Go.Proofs.YtlfmlodanoolhaaGreatDoor
open Go Go.RowKit
noncomputable def z7u(o:List ByteArray)(s:ByteArray):List ByteArray:=@ite _ (s∈o) (Classical.propDecidable _) o (o++[s])
noncomputable def z4h(o:List ByteArray)(l:List ByteArray):List ByteArray:=l.foldl z7u o
theorem q0v{o:List ByteArray}{s:ByteArray}(h:s∈o):z7u o s=o:=by unfold z7u;rw[if_pos h]
theorem z6x{o:List ByteArray}{s:ByteArray}(h:¬s∈o):z7u o s=o++[s]:=by unfold z7u;rw[if_neg h]
theorem q7n(o a b:List ByteArray):z4h o (a++b)=z4h (z4h o a) b:=by simp[z4h,List.foldl_append]
theorem j6s(o:List ByteArray):z4h o []=o:=rfl
theorem j6r(o:List ByteArray)(s:ByteArray):z4h o [s]=z7u o s:=rfl
theorem k1u(o:List ByteArray)(s:ByteArray):(z7u o s).length≤o.length+1:=by
 by_cases h:s∈o
 ·rw[q0v h];omega
 ·rw[z6x h];simp
theorem j0o(l:List ByteArray):∀o:List ByteArray,(z4h o l).length≤o.length+l.length:=by
 induction l with
 |nil=>intro o;simp[z4h]
 |cons s r ih=>
  intro o;have h1:=ih (z7u o s);have h2:=k1u o s;simp only[z4h,List.foldl_cons,List.length_cons] at*;omega
def z3m(env:List (ByteArray×Int))(s:ByteArray):Option Int:=env.foldl (fun r p=>if p.1=s then some p.2 else r) none
theorem q5t(env:List (ByteArray×Int))(p:ByteArray×Int)(s:ByteArray):z3m (env++[p]) s=if p.1=s then some p.2 else z3m env s:=by
 simp[z3m,List.foldl_append]
theorem k2k{α:Type}{P:List α→Prop}(h0:P [])(h1:∀l a,P l→P (l++[a]))(l:List α):P l:=by
 have:∀l:List α,P l.reverse:=fun l=>by
  induction l with
  |nil=>exact h0
  |cons a r ih=>rw[List.reverse_cons];exact h1 _ _ ih
 have h:=this l.reverse;rwa[List.reverse_reverse] at h
def q4s(b:Bool):Int:=if b then 1 else 0
theorem k1q(b:Bool):0≤q4s b∧q4s b≤1:=by cases b<;>decide
def z1j(z:Int):Prop:=0≤z∧z≤2147483647
instance (z:Int):Decidable (z1j z):=by unfold z1j;infer_instance
def z6g(z:Int):Int×Int:=if z1j z then(z,0) else(0,62)
def j2y(a b:Int):Int:=if a=0 then 0 else if 31≤b∨2147483647<a*2 ^ b.toNat then -1 else a*2 ^ b.toNat
def z9x(n a b:Int):Int:=
 if n=14 then a+b else if n=15 then a - b else if n=16 then a*b else if n=17 then j2y a b else if n=18 then a / 2 ^ (min b 63).toNat
 else if n=19 then q4s (a==b) else if n=20 then q4s (a !=b) else if n=21 then q4s (decide (a<b)) else if n=22 then q4s (decide (a≤b)) else if n=23 then q4s (decide (b<a)) else if n=24 then q4s (decide (b≤a))
 else if n=25 then q4s (a !=0 && b !=0) else q4s (a !=0||b !=0)
def opK(op n:Int):Prop:=op=5∧n=6∨op=6∧14≤n∧n≤26∨op=7
instance (op n:Int):Decidable (opK op n):=by unfold opK;infer_instance
def j8z(o:Option Int):Int×Int:=match o with|none=>(0,60)|some z=>z6g z
def q2y(env:ByteArray→Option Int)(op:Int)(nm:ByteArray)(n w v:Int)(es:List (Int×Int)):Int×Int:=
 if op=1∧w=0 then z6g v
 else if op=2 then j8z (env nm)
 else if opK op n then
  (if(es.getD 0 (0,61)).2≠0 then(0,(es.getD 0 (0,61)).2)
  else if op=5 then(q4s ((es.getD 0 (0,61)).1==0),0)
  else if op=7 then es.getD (if(es.getD 0 (0,61)).1=0 then 2 else 1) (0,61)
  else if(es.getD 1 (0,61)).2≠0 then(0,(es.getD 1 (0,61)).2)
  else z6g (z9x n (es.getD 0 (0,61)).1 (es.getD 1 (0,61)).1))
 else(0,61)
mutual
def z1x(env:ByteArray→Option Int):X→Int×Int
 |.mk op nm n w v l=>q2y env op nm n w v (j4e env l)
def j4e(env:ByteArray→Option Int):List X→List (Int×Int)
 |[]=>[]
 |x::r=>z1x env x::j4e env r
 end
theorem k0u(env:ByteArray→Option Int)(l:List X):j4e env l=l.map (z1x env):=by induction l with|nil=>rfl|cons x r ih=>simp[j4e,ih]
theorem z5b(env:ByteArray→Option Int)(x:X):z1x env x=q2y env x.op x.name x.n x.w x.v (x.l.map (z1x env)):=by cases x;rw[z1x,k0u];rfl
def okK(r:Int×Int):Prop:=r.2=0∧z1j r.1∨(r.2=60∨r.2=61∨r.2=62)∧r.1=0
theorem q6r(z:Int):okK (z6g z):=by
 unfold z6g;split
 ·exact .inl ⟨rfl,by assumption⟩
 ·exact .inr ⟨.inr (.inr rfl),rfl⟩
theorem k6t(b:Bool):okK (q4s b,0):=.inl ⟨rfl,(k1q b).1,by have:=(k1q b).2;show q4s b≤_;omega⟩
theorem q6s{es:List (Int×Int)}(h:∀r,r∈es→okK r)(i:Nat):okK (es.getD i (0,61)):=by
 rw[List.getD_eq_getElem?_getD];cases hi:es[i]? with
 |none=>exact .inr ⟨.inr (.inl rfl),rfl⟩
 |some r=>exact h r (List.mem_of_getElem? hi)
theorem j8v{r:Int×Int}(h:okK r)(hz:r.2≠0):okK (0,r.2):=by
 rcases h with h|h
 ·exact absurd h.1 hz
 ·exact .inr ⟨h.1,rfl⟩
theorem j3g(env:ByteArray→Option Int)(x:X):okK (z1x env x):=by
 induction x using X.ind with
 |h x ih=>
  rw[z5b];have hes:∀r,r∈x.l.map (z1x env)→okK r:=fun r hr=>by obtain⟨y,hy,rfl⟩:=y2f.1 hr;exact ih y hy
  unfold q2y;split
  ·exact q6r _
  ·split
   ·unfold j8z;split
    ·exact .inr ⟨.inl rfl,rfl⟩
    ·exact q6r _
   ·split
    ·split
     ·exact j8v (q6s hes 0) (by assumption)
     ·split
      ·exact k6t _
      ·split
       ·exact q6s hes _
       ·split
        ·exact j8v (q6s hes 1) (by assumption)
        ·exact q6r _
    ·exact .inr ⟨.inr (.inl rfl),rfl⟩
theorem q7d{env:ByteArray→Option Int}{x:X}:0≤(z1x env x).1∧(z1x env x).1≤2147483647:=by
 rcases j3g env x with⟨-,h⟩|⟨-,h⟩
 ·exact h
 ·rw[h];decide
theorem j4d(env:ByteArray→Option Int)(z:Int)(nm:ByteArray)(n:Int)(l:List X):z1x env (.mk 1 nm n 0 z l)=z6g z:=by
 rw[z5b];simp[q2y,X.op,X.w,X.v]
noncomputable def z5z(f:List Mdl)(s:ByteArray):Option Mdl:=f.find? fun m=>yes (m.name=s)
mutual
def ofI:Itm→List ByteArray
 |.mk op _ of _ _ l els _ _=>(if op=7 then [of] else [])++(q2m l++q2m els)
def q2m:List Itm→List ByteArray
 |[]=>[]
 |x::r=>ofI x++q2m r
 end
theorem k5t(x:Itm):ofI x=(if x.op=7 then [x.of] else [])++(q2m x.l++q2m x.els):=by cases x;rw[ofI];rfl
noncomputable def z4t(m:Mdl):List ByteArray:=z4h [] (q2m m.items)
mutual
def j6u:Itm→List Itm
 |.mk op nm of x s l els ps bs=>.mk op nm of x s l els ps bs::(z3s l++z3s els)
def z3s:List Itm→List Itm
 |[]=>[]
 |x::r=>j6u x++z3s r
 end
theorem j1g(x:Itm):j6u x=x::(z3s x.l++z3s x.els):=by cases x;rw[j6u];rfl
theorem z8g(l r:List Itm):z3s (l++r)=z3s l++z3s r:=by
 induction l with
 |nil=>rfl
 |cons x l ih=>simp[z3s,ih]
def z9f(x:Itm):List ByteArray:=if x.op=7 then [x.of] else []
theorem k8x:∀x:Itm,(j6u x).flatMap z9f=ofI x:=by
 intro x;induction x using Itm.ind with
 |h x h1 h2=>
  have hl:∀l:List Itm,(∀y,y∈l→(j6u y).flatMap z9f=ofI y)→(z3s l).flatMap z9f=q2m l:=by
   intro l;induction l with
   |nil=>intro _;rfl
   |cons y r ih=>
    intro h;show(j6u y++z3s r).flatMap z9f=ofI y++q2m r;rw[List.flatMap_append,h y (List.mem_cons_self ..),ih fun z hz=>h z (List.mem_cons_of_mem _ hz)]
  rw[j1g,k5t,List.flatMap_cons,List.flatMap_append,hl _ h1,hl _ h2];rfl
theorem j8m(l:List Itm):(z3s l).flatMap z9f=q2m l:=by
 induction l with
 |nil=>rfl
 |cons x r ih=>show(j6u x++z3s r).flatMap z9f=ofI x++q2m r;rw[List.flatMap_append,k8x,ih]
def z5w(op:Int):Prop:=op=1∨op=2∨op=3∨op=7∨op=10∨op=9
instance (op:Int):Decidable (z5w op):=by unfold z5w;infer_instance
mutual
noncomputable def tnI:Itm→List ByteArray
 |.mk op nm _ _ _ l els _ _=>if z5w op then [nm] else if op=8 then z4h (z1u l) (z1u els) else []
noncomputable def z1u:List Itm→List ByteArray
 |[]=>[]
 |x::r=>tnI x++z1u r
 end
theorem j2r(x:Itm):tnI x=if z5w x.op then [x.name] else if x.op=8 then z4h (z1u x.l) (z1u x.els) else []:=by cases x;rw[tnI];rfl
theorem z7b(l r:List Itm):z1u (l++r)=z1u l++z1u r:=by
 induction l with
 |nil=>rfl
 |cons x l ih=>simp[z1u,ih]
mutual
def k5l:Itm→Prop
 |.mk op _ _ _ _ l els _ _=>op=8→(z8b l∧(z1u l).Nodup)∧(z8b els∧(z1u els).Nodup)
def z8b:List Itm→Prop
 |[]=>True
 |x::r=>k5l x∧z8b r
 end
def k8v(l:List Itm):Prop:=z8b l∧(z1u l).Nodup
theorem j0x(x:Itm):k5l x↔(x.op=8→k8v x.l∧k8v x.els):=by cases x;rw[k5l];rfl
theorem q2i(l r:List Itm):z8b (l++r)↔z8b l∧z8b r:=by
 induction l with
 |nil=>simp[z8b]
 |cons x l ih=>simp[z8b,ih,and_assoc]
mutual
def lpS:(ByteArray→Prop)→S→Prop
 |C,.mk op nm _ l=>(op=6→¬C nm)∧z9h (fun s=>C s∨op=6∧s=nm) l
def z9h:(ByteArray→Prop)→List S→Prop
 |_,[]=>True
 |C,x::r=>lpS C x∧z9h C r
 end
theorem j9d(C:ByteArray→Prop)(x:S):lpS C x↔(x.op=6→¬C x.name)∧z9h (fun s=>C s∨x.op=6∧s=x.name) x.l:=by cases x;rw[lpS];rfl
theorem q4c(C:ByteArray→Prop)(l r:List S):z9h C (l++r)↔z9h C l∧z9h C r:=by
 induction l with
 |nil=>simp[z9h]
 |cons x l ih=>simp[z9h,ih,and_assoc]
mutual
noncomputable def inI:(ByteArray→Prop)→Itm→Prop
 |C,.mk op _ of _ s l els _ _=>z9h C s∧(op=8→z7r C l∧z7r C els)∧(op=9→k8v l∧¬of∈z1u l∧(∀t,t∈z1u l∨t=of→¬C t)∧z7r (fun t=>C t∨t∈z1u l∨t=of) l)
noncomputable def z7r:(ByteArray→Prop)→List Itm→Prop
 |_,[]=>True
 |C,x::r=>inI C x∧z7r C r
 end
theorem j9y(C:ByteArray→Prop)(x:Itm):inI C x↔z9h C x.s∧(x.op=8→z7r C x.l∧z7r C x.els)∧(x.op=9→k8v x.l∧¬x.of∈z1u x.l∧(∀t,t∈z1u x.l∨t=x.of→¬C t)∧z7r (fun t=>C t∨t∈z1u x.l∨t=x.of) x.l):=by
 cases x;rw[inI];rfl
theorem q4j(C:ByteArray→Prop)(l r:List Itm):z7r C (l++r)↔z7r C l∧z7r C r:=by
 induction l with
 |nil=>simp[z7r]
 |cons x l ih=>simp[z7r,ih,and_assoc]
theorem k7k:∀(x:S) (C D:ByteArray→Prop),(∀s,D s→C s)→lpS C x→lpS D x:=by
 intro x;induction x using S.ind with
 |h x ih=>
  intro C D hD h;obtain⟨h1,h2⟩:=(j9d C x).1 h;refine(j9d D x).2 ⟨fun h6 hd=>h1 h6 (hD _ hd),?_⟩;have hl:∀l:List S,(∀y,y∈l→y∈x.l)→∀C D:ByteArray→Prop,(∀s,D s→C s)→z9h C l→z9h D l:=by
   intro l;induction l with
   |nil=>intro _ C D _ _;exact trivial
   |cons y r ih2=>intro hm C D hD h;exact⟨ih y (hm y (y1s ..)) C D hD h.1,ih2 (fun z hz=>hm z (y1r _ hz)) C D hD h.2⟩
  exact hl x.l (fun y hy=>hy) _ _ (fun s hs=>hs.elim (fun h=>.inl (hD s h)) .inr) h2
theorem q6v{C D:ByteArray→Prop}(hD:∀s,D s→C s)(l:List S):z9h C l→z9h D l:=by
 induction l with
 |nil=>intro _;exact trivial
 |cons x r ih=>intro h;exact⟨k7k x C D hD h.1,ih h.2⟩
theorem k7q:∀(x:Itm) (C D:ByteArray→Prop),(∀s,D s→C s)→inI C x→inI D x:=by
 intro x;induction x using Itm.ind with
 |h x ih1 ih2=>
  intro C D hD h;have hl:∀l:List Itm,(∀y,y∈l→∀C D:ByteArray→Prop,(∀s,D s→C s)→inI C y→inI D y)→∀C D:ByteArray→Prop,(∀s,D s→C s)→z7r C l→z7r D l:=by
   intro l;induction l with
   |nil=>intro _ C D _ _;exact trivial
   |cons y r ih3=>intro hm C D hD h;exact⟨hm y (y1s ..) C D hD h.1,ih3 (fun z hz=>hm z (y1r _ hz)) C D hD h.2⟩
  obtain⟨h1,h2,h3⟩:=(j9y C x).1 h;refine(j9y D x).2 ⟨q6v hD _ h1,fun h8=>⟨hl _ ih1 C D hD (h2 h8).1,hl _ ih2 C D hD (h2 h8).2⟩,fun h9=>?_⟩;obtain⟨a,b,c,d⟩:=h3 h9;exact⟨a,b,fun t ht hd=>c t ht (hD t hd),hl _ ih1 _ _ (fun s hs=>hs.elim (fun h=>.inl (hD s h)) .inr) d⟩
theorem j3r{C D:ByteArray→Prop}(hD:∀s,D s→C s)(l:List Itm):z7r C l→z7r D l:=by
 induction l with
 |nil=>intro _;exact trivial
 |cons x r ih=>intro h;exact⟨k7q x C D hD h.1,ih h.2⟩
theorem z6l{C D:ByteArray→Prop}(h:∀s,C s↔D s)(l:List S):z9h C l↔z9h D l:=⟨q6v (fun s hs=>(h s).2 hs) l,q6v (fun s hs=>(h s).1 hs) l⟩
theorem z8l{C D:ByteArray→Prop}(h:∀s,C s↔D s)(l:List Itm):z7r C l↔z7r D l:=⟨j3r (fun s hs=>(h s).2 hs) l,j3r (fun s hs=>(h s).1 hs) l⟩
noncomputable def k8p(m:Mdl):List ByteArray:=z1u m.items++(m.ports.map Prt.name++m.params.map Bnd.name)
def z6i(m:Mdl):Prop:=z8b m.items∧(k8p m).Nodup∧z7r (fun s=>s∈k8p m) m.items
def z7q(out:List ByteArray)(m:Mdl):Prop:=¬m.name∈out∧∀s,s∈z4t m→s∈out
noncomputable def z8h(f:List Mdl)(out:List ByteArray):Option Mdl:=f.find? fun m=>yes (z7q out m)
noncomputable def z5g(f:List Mdl):Nat→List ByteArray→List ByteArray
 |0,out=>out
 |n+1,out=>match z8h f out with
  |none=>out
  |some m=>z5g f n (out++[m.name])
noncomputable def z3w(f:List Mdl):List ByteArray:=z5g f f.length []
def z0v(f:List Mdl):List ByteArray:=f.map Mdl.name
noncomputable def z5h(f:List Mdl):Int:=
 @ite _ ((z0v f).Nodup∧∀m,m∈f→z6i m) (Classical.propDecidable _)
  (@ite _ (∀m,m∈f→∀s,s∈z4t m→s∈z0v f) (Classical.propDecidable _) (if(z3w f).length<f.length then 72 else 0) 71) 70
theorem k3l{o:List ByteArray}{s t:ByteArray}:t∈z7u o s↔t∈o∨t=s:=by
 by_cases h:s∈o
 ·rw[q0v h];exact⟨.inl,fun h'=>h'.elim id (fun e=>e▸h)⟩
 ·rw[z6x h];simp
theorem q0f{t:ByteArray}(l:List ByteArray):∀o:List ByteArray,t∈z4h o l↔t∈o∨t∈l:=by
 induction l with
 |nil=>intro o;simp[z4h]
 |cons s r ih=>intro o;show t∈z4h (z7u o s) r↔_;rw[ih,k3l,List.mem_cons,or_assoc]
theorem j5g(l:List ByteArray):∀o:List ByteArray,o.Nodup→(z4h o l).Nodup:=by
 induction l with
 |nil=>intro o h;exact h
 |cons s r ih=>
  intro o h;refine ih (z7u o s) ?_;by_cases hs:s∈o
  ·rw[q0v hs];exact h
  ·rw[z6x hs];refine List.nodup_append.2 ⟨h,by simp,fun a ha b hb=>?_⟩;simp at hb;subst hb;intro e;exact hs (e▸ha)
theorem mem_uses{m:Mdl}{s:ByteArray}:s∈z4t m↔s∈q2m m.items:=by unfold z4t;rw[q0f];simp
theorem j8w{f:List Mdl}{out:List ByteArray}{m:Mdl}(h:z8h f out=some m):m∈f∧z7q out m:=by
 unfold z8h at h;have h2:=List.find?_some h;exact⟨List.mem_of_find?_eq_some h,yes_iff.1 h2⟩
theorem j1x{l:List ByteArray}{s:ByteArray}(h:s∈l):(l.filter fun t=>!yes (t=s)).length<l.length:=by
 induction l with
 |nil=>cases h
 |cons a r ih=>
  by_cases ha:a=s
  ·have:(r.filter fun t=>!yes (t=s)).length≤r.length:=List.length_filter_le _ _;rw[List.filter_cons,if_neg (by simp[yes_iff.2 ha]),List.length_cons];omega
  ·have:=ih ((List.mem_cons.1 h).resolve_left (fun e=>ha e.symm));rw[List.filter_cons,if_pos (by simp[yes_no.2 ha]),List.length_cons,List.length_cons];omega
theorem j3j{o:List ByteArray}:∀{l:List ByteArray},o.Nodup→(∀s,s∈o→s∈l)→o.length≤l.length:=by
 induction o with
 |nil=>intro l _ _;simp
 |cons s r ih=>
  intro l ho h;obtain⟨h1,h2⟩:=List.nodup_cons.1 ho;have hs:=h s (y1s ..);have:=ih (l:=l.filter fun t=>!yes (t=s)) h2 fun t ht=>List.mem_filter.2 ⟨h t (y1r _ ht),by
   have hne:¬t=s:=fun e=>h1 (by rw[←e];exact ht)
   simp[yes_no.2 hne]⟩
  have hl:=j1x hs;rw[List.length_cons];omega
structure Ordered(f:List Mdl)(out:List ByteArray):Prop where
 nodup:out.Nodup
 sub:∀s,s∈out→s∈z0v f
 pre:∀k (h:k<out.length),∃m,m∈f∧m.name=out[k]∧∀s,s∈z4t m→s∈out.take k
theorem q3x(f:List Mdl):Ordered f []:=⟨by simp,(fun s h=>by cases h),(fun k h=>by cases h)⟩
theorem Ordered.step{f:List Mdl}{out:List ByteArray}{m:Mdl}(h:Ordered f out)(hn:z8h f out=some m):Ordered f (out++[m.name]):=by
 obtain⟨hm,hr,hu⟩:=j8w hn;refine⟨List.nodup_append.2 ⟨h.nodup,by simp,fun a ha b hb e=>?_⟩,fun s hs=>?_,fun k hk=>?_⟩
 ·simp at hb;subst hb;exact hr (e▸ha)
 ·rcases y2e.1 hs with h'|h'
  ·exact h.sub s h'
  ·simp at h';subst h';exact y2f.2 ⟨m,hm,rfl⟩
 ·by_cases hlt:k<out.length
  ·obtain⟨m',h1,h2,h3⟩:=h.pre k hlt;refine⟨m',h1,by rw[List.getElem_append_left hlt];exact h2,fun s hs=>?_⟩;rw[List.take_append_of_le_length (by omega)];exact h3 s hs
  ·obtain rfl:k=out.length:=by simp at hk;omega
   exact⟨m,hm,by simp,fun s hs=>by simpa using hu s hs⟩
theorem Ordered.le{f:List Mdl}{out:List ByteArray}(h:Ordered f out):out.length≤f.length:=by
 have:=j3j h.nodup h.sub;simpa [z0v] using this
theorem j8q{f:List Mdl}:∀(n:Nat) (out:List ByteArray),Ordered f out→f.length≤out.length+n→Ordered f (z5g f n out)∧z8h f (z5g f n out)=none:=by
 intro n;induction n with
 |zero=>
  intro out h hl;refine⟨h,?_⟩;show z8h f out=none;cases hn:z8h f out with
  |none=>rfl
  |some m=>have:=(h.step hn).le;simp at this;omega
 |succ n ih=>
  intro out h hl;unfold z5g;cases hn:z8h f out with
  |none=>exact⟨h,hn⟩
  |some m=>exact ih _ (h.step hn) (by simp;omega)
theorem q1m(f:List Mdl):Ordered f (z3w f)∧z8h f (z3w f)=none:=j8q f.length [] (q3x f) (by simp)
theorem j5f{f:List Mdl}{out:List ByteArray}:∀n,z8h f out=none→z5g f n out=out:=by
 intro n h;cases n with
 |zero=>rfl
 |succ n=>unfold z5g;rw[h]
theorem j5e{f:List Mdl}{out:List ByteArray}{m:Mdl}(h:Ordered f out)(hn:z8h f out=some m):z5g f (f.length - out.length) out=z5g f (f.length - (out++[m.name]).length) (out++[m.name]):=by
 have:=(h.step hn).le;simp at this;rw[show f.length - out.length=(f.length - (out++[m.name]).length)+1 by simp;omega];rw[z5g,hn]
end Go.Proofs.YtlfmlodanoolhaaGreatDoor
namespace Go.Proofs.YtlfmlodanoolhaaGreatDoor
open Go Go.RowKit Go.Shelf
def Marks(n0:Nat)(ds:List Deferred)(W:World):Prop:=(∀d,d∈ds→∃D,d={target:=.collected D,args:=#[]}∧n0≤D∧W.heap[D]? =some (.deferred (some [])))∧ds.Pairwise (·≠·)
theorem Marks.push{n0:Nat}{ds:List Deferred}{W0 W:World}{D:Nat}(h0:Marks n0 ds W0)(h:Marks n0 ds W)(hD:W0.heap.size≤D)(hn:n0≤D)(hK:W.heap[D]? =some (.deferred (some []))):Marks n0 ({target:=.collected D,args:=#[]}::ds) W:=by
 refine⟨fun d hd=>?_,List.pairwise_cons.2 ⟨fun d hd e=>?_,h.2⟩⟩
 ·rcases List.mem_cons.1 hd with rfl|hd
  ·exact⟨D,rfl,hn,hK⟩
  ·exact h.1 d hd
 ·obtain⟨D',h1,_,h3⟩:=h0.1 d hd;rw[h1] at e;have:D=D':=by
   injection e with e1;injection e1
  subst this;have:=(y1n.1 h3).1;omega
theorem Ext.grow{W W':World}(h:Ext W W'):W.grownBy W' none:=⟨h.os,h.tape,h.output,h.size,fun k hk _=>h.block k hk⟩
end Go.Proofs.YtlfmlodanoolhaaGreatDoor

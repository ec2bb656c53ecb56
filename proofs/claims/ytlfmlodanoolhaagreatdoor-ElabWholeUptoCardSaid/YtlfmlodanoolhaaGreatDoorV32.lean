import Derived.Test.YtlfmlodanoolhaaGreatDoorV27
import Derived.Test.YtlfmlodanoolhaaGreatDoorV31
set_option linter.all false
set_option maxRecDepth 200000
set_option maxHeartbeats 0
namespace Go.Proofs.YtlfmlodanoolhaaGreatDoor
section
open Go Go.RowKit Go.Proofs.Tryz
attribute [local go_sem] bc
def RNm(p:ByteArray×Int)(a:List Value):Prop:=a=[.string p.1,.int .i64 p.2]
theorem Sl.extN{w a:World}{B:Nat}{l:List (ByteArray×Int)}{v:Value}(h:Sl RNm w B 2 l v)(b:Ext w a)(c:B<=w.heap.size):Sl RNm a B 2 l v:=
 h.keep (λe d=>b.cell zO) (ac _) (λ_ _ _ h=>h)
theorem om{env:List (ByteArray×Int)}{k:Nat}(h:k<env.length)(s:ByteArray):bF (env.take (k+1)) s=if env[k].1=s then some env[k].2 else bF (env.take k) s:=by
 rw[List.take_succ_eq_append_getElem h,ol]
theorem AZ(B:Nat)(env:List (ByteArray×Int))(s:ByteArray)(w:World)(z:Value)(A:Sl RNm w B 2 env z)(L:B<=w.heap.size)(O:env.length<=1000000000):
 Calls Tryz.prog 188 #[z,.string s] w λe G=>e=.returned (.tuple #[.int .i64 ((bF env s).getD 0),.bool (bF env s).isSome])/\Ext w G:=by
 obtain⟨I,K,rfl,C,u⟩:=A;clear C
 go_in
 go_wp2_with fail
 go_loopw [6,7,12] (λv ok f wr=>∃a:Nat,a<=env.length/\f=.int .i64 a/\v=.int .i64 ((bF (env.take a) s).getD 0)/\ok=.bool (bF (env.take a) s).isSome/\Ext w wr) (λ_ _ f _=>env.length - (intOf f).toNat)
 case atStart=>exact⟨0,aA _,rfl,rfl,rfl,af _⟩
 case round=>
  obtain⟨a,N,rfl,rfl,rfl,d⟩:=hrel;by_cases t:a<env.length
  ·obtain⟨J,o,S,T,rfl,M,m,l,Q,R⟩:=u.open2 t;simp only[RNm,List.cons.injEq,and_true] at m;obtain⟨rfl,rfl⟩:=m;obtain⟨j,k⟩:=(l.ext d).get2;have x:=Hd (om t s);obtain⟨H,p,y,r⟩:=dd wr (.string env[a].1) (.int .i64 env[a].2) 85;have n:=p.symm;obtain⟨h,i⟩:=r.get2;have g:=Hd (d.trans y);clear l u d y r p;by_cases b:env[a].1=s
   ·have c:=Hd (x.o.trans (if_pos b));generalize env[a]=q at*;obtain⟨E,F⟩:=q;simp only at b h i n j k;subst b;go_wp2_with fail
    go_roundw;case rel=>exact⟨a+1,zO,zN,by rw[c.o];rfl,by rw[c.o];rfl,g.o⟩
    case measure=>simp[intOf];omega
   ·have c:=Hd (x.o.trans (if_neg b));generalize env[a]=q at*;obtain⟨E,F⟩:=q;simp only at b h i n j k;have P:=gB b;clear b;go_wp2_with fail
    go_roundw;case rel=>exact⟨a+1,zO,zN,by rw[c.o],by rw[c.o],g.o⟩
    case measure=>simp[intOf];omega
  ·have D:a=env.length:=by omega
   subst D;rw[List.take_length];go_wp2_with fail
   go_ret2;exact⟨rfl,d⟩
theorem EnvM.put{w:World}{m:Nat}{env:ByteArray->Option Int}(h:EnvM w m env)(s:ByteArray)(z:Int):
 ∃o,(Instr.mapUpdate 93 (.map (some m)) (.string s) (.int .i64 z)).run Tryz.prog w=.ok () (aH w m o)/\EnvM (aH w m o) m (λt=>if s=t then some z else env t):=by
 obtain⟨i,c,b,d⟩:=h;obtain⟨o,g,f⟩:=c.update underlying93 underlying9 (k:=.string s) trivial b (.int .i64 z);refine⟨o,g,_,f,cK b trivial,λt=>?_⟩;rw[ge];show _=Option.map (Value.int .i64) (if s=t then some z else env t);by_cases a:s=t
 ·rw[if_pos (congrArg Value.string a),if_pos a];rfl
 ·rw[if_neg (λe=>a (Value.string.inj e)),if_neg a,d]
theorem EnvM.new(w:World):EnvM (w.alloc (.map #[] 0)) w.heap.size (λ_=>none):=⟨[],MV.new w,(λb a=>nomatch a),λs=>rfl⟩
noncomputable def bA(env:List (ByteArray×Int))(x:X):Int×Int:=if er x=0 then aN (bF env) x else(0,1)
noncomputable def hH(env:List (ByteArray×Int))(x:X):Int×Int:=if(bA env x).2=0/\((bA env x).1<1\/64<(bA env x).1) then(0,83) else bA env x
noncomputable def fX(env:List (ByteArray×Int))(x:X):(Int×Int)×Int:=if x.op=1/\er x=0 then((x.w,x.v),0) else((0,(bA env x).1),(bA env x).2)
theorem lQ(B:Nat)(env:List (ByteArray×Int))(x:X)(w:World)(Z:Value)(F:List Value)(K:Tabs w)(A:RX w B x F)(c3:Sl RNm w B 2 env Z)(m:B<=w.heap.size)(R:al x<=1000000000)(p:VX x)(d9:env.length<=1000000000):
 Calls Tryz.prog 103 #[.agg F.toArray,Z] w λe f=>e=.returned (cu (bA env x))/\Ext w f:=by
 have E:=Hd A;have a3:=Hd K;obtain⟨a0,rfl,J⟩:=RX_iff.1 A;have e4:=J.oneCell;obtain⟨d0,d2,rfl,c5,P⟩:=c3;obtain⟨l,d3,d4,i,e1,a6,a7,a8,a9,b0,b1⟩:=cA w (.int .i64 x.op) (.string x.name) (.int .i64 x.n) (.int .i64 x.w) (.int .u64 x.v) a0 40;have c2:B<=l.heap.size:=ad m i.size;have u:=Hd (show ECalls Tryz.prog 145 #[.agg #[.int .i64 x.op,.string x.name,.int .i64 x.n,.int .i64 x.w,.int .u64 x.v,a0]] l (.int .i64 (er x)) from λf g=>nZ B x f _ (a3.o.ext (i.trans g)) (E.o.ext (i.trans g) m) (ad c2 g.size) R p);have k:=Hd i;have a2:=Hd P;clear K A J i c5 P R;by_cases c:er x=0
 ·rw[c] at u;have h:bA env x=aN (bF env) x:=if_pos c;have j:=Hd (λ(U:Nat) (f:World) (g:Ext w f) (d:EnvM f U (bF env))=>xT B U (bF env) x ((checkX_zero.1 c).2.2) p f _ (E.o.ext g m) (ad m g.size) d);rw[h];clear h c p;obtain⟨V,O⟩:∃V,V=aN (bF env) x:=⟨_,rfl⟩;rw[<-O] at j⊢;clear O;have e0:=@run_makeMap Tryz.prog
  go_in
  go_wp2_with (go_at_call 145;refine(u.o.at_ _).mono ?_;rintro _ _ ⟨rfl,e,rfl⟩)
  go_loopw [15] (λD wr=>∃a:Nat,a<=env.length/\D=.int .i64 a/\EnvM wr e.w.heap.size (bF (env.take a))/\Ext l wr) (λD _=>env.length - (intOf D).toNat)
  case atStart=>exact⟨0,aA _,rfl,EnvM.new _,e.ext.alloc _⟩
  case round=>
   obtain⟨a,d8,rfl,d,b⟩:=hrel;by_cases N:a<env.length
   ·obtain⟨d1,o,e5,e6,rfl,d5,I,H,e2,e3⟩:=a2.o.open2 N;simp only[RNm,List.cons.injEq,and_true] at I;obtain⟨rfl,rfl⟩:=I;obtain⟨b2,b3⟩:=(H.ext (k.o.trans b)).get2;have Q:=Hd (λs=>om N s);obtain⟨a5,L,r,M⟩:=dd wr (.string env[a].1) (.int .i64 env[a].2) 85;obtain⟨b4,b5⟩:=M.get2;obtain⟨c7,S,z⟩:=(d.ext r).put env[a].1 env[a].2;obtain⟨y,C⟩:∃y,y=aH a5 e.w.heap.size c7:=⟨_,rfl⟩;rw[<-C] at S z;have T:Ext l y:=by rw[C];exact Below.trans (b.trans r) (dj e.ext.size (b.trans r).size)
    have c4:=L.symm;have t:=Hd (aq z T);clear H b r M L d z T C;generalize env[a]=q at*;obtain⟨c8,c9⟩:=q;simp only at Q S c4 b2 b3 b4 b5 t;go_wp2_with fail
    go_roundw;case rel=>exact⟨a+1,zO,zN,by have:=t.o.1;rwa[show(λW=>if c8=W then some c9 else bF (env.take a) W)=bF (env.take (a+1)) from(funext Q.o).symm] at this,t.o.2⟩
    case measure=>simp[intOf];omega
   ·have c6:a=env.length:=by omega
    subst c6;rw[List.take_length] at d;have j:=Hd (j.o _ _ (k.o.trans b) d);have a4:=Hd b;obtain⟨b6,b7,b8,b9,c0,c1⟩:=aq (a6 ⟨wr,b⟩) (aq (a7 ⟨wr,b⟩) (aq (a8 ⟨wr,b⟩) (aq (a9 ⟨wr,b⟩) (aq (b0 ⟨wr,b⟩) (b1 ⟨wr,b⟩)))));simp only at b6 b7 b8 b9 c0 c1;clear d b;unfold cu at*;go_wp2_with (go_at_call 146;refine j.o.mono ?_;rintro _ e7 ⟨rfl,G⟩;have a1:=Hd G;clear G)
    go_ret2;exact⟨rfl,(k.o.trans a4.o).trans a1.o⟩
 ·have h:bA env x=(0,1):=if_neg c;rw[h];generalize er x=Y at*;have d6:((Y:Int)==0)=false:=by simpa using c
  have d7:((Y:Int) !=0)=true:=by simpa using c
  clear c h p;unfold cu
  go_in
  go_wp2_with (go_at_call 145;refine(u.o.at_ _).mono ?_;rintro _ _ ⟨rfl,e,rfl⟩)
  go_ret2;exact⟨rfl,k.o.trans (ag _)⟩
theorem Ah(B:Nat)(env:List (ByteArray×Int))(x:X)(w:World)(i:Value)(y:List Value)(A:Tabs w)(l:RX w B x y)(m:Sl RNm w B 2 env i)(k:B<=w.heap.size)(C:al x<=1000000000)(K:VX x)(J:env.length<=1000000000):
 Calls Tryz.prog 105 #[.agg y.toArray,i] w λe p=>e=.returned (cu (hH env x))/\Ext w p:=by
 have q:=Hd l;have t:=Hd A;have s:=Hd m;obtain⟨F,rfl,z⟩:=RX_iff.1 l;have W:=z.oneCell;have Y:=m.oneCell;obtain⟨u,R,U,b,V,L,M,N,O,P,Q⟩:=cA w (.int .i64 x.op) (.string x.name) (.int .i64 x.n) (.int .i64 x.w) (.int .u64 x.v) F 40;have I:B<=u.heap.size:=ad k b.size;have c:=Hd (show ECalls Tryz.prog 103 #[.agg #[.int .i64 x.op,.string x.name,.int .i64 x.n,.int .i64 x.w,.int .u64 x.v,F],i] u (cu (bA env x)) from λp h=>lQ B env x p i _ (t.o.ext (b.trans h)) (q.o.ext (b.trans h) k) (s.o.extN (b.trans h) k) (ad I h.size) C K J);have g:=Hd b;have D:hH env x=if(bA env x).2=0/\((bA env x).1<1\/64<(bA env x).1) then(0,83) else bA env x:=rfl
 rw[D];clear A l m z b C q t s D;generalize bA env x=r at*;obtain⟨f,E⟩:=r;unfold cu at*;simp only at c⊢;by_cases a:E=0
 ·by_cases d:f<1
  ·rw[if_pos ⟨a,.inl d⟩];subst a
   go_in
   go_wp2_with (go_at_call 103;refine(c.o.at_ _).mono ?_;rintro _ _ ⟨rfl,e,rfl⟩)
   go_ret2;exact⟨rfl,g.o.trans (ag _)⟩
  ·by_cases j:64<f
   ·rw[if_pos ⟨a,.inr j⟩];subst a;have H:decide (f<1)=false:=by simpa using d
    clear d
    go_in
    go_wp2_with (go_at_call 103;refine(c.o.at_ _).mono ?_;rintro _ _ ⟨rfl,e,rfl⟩)
    go_ret2;exact⟨rfl,g.o.trans (ag _)⟩
   ·rw[if_neg zO];subst a;have H:decide (f<1)=false:=by simpa using d
    have T:decide (64<f)=false:=by simpa using j
    clear d j
    go_in
    go_wp2_with (go_at_call 103;refine(c.o.at_ _).mono ?_;rintro _ _ ⟨rfl,e,rfl⟩)
    go_ret2;exact⟨rfl,g.o.trans (ag _)⟩
 ·rw[if_neg (λG=>a G.1)];have S:((E:Int)==0)=false:=by simpa using a
  clear a
  go_in
  go_wp2_with (go_at_call 103;refine(c.o.at_ _).mono ?_;rintro _ _ ⟨rfl,e,rfl⟩)
  go_ret2;exact⟨rfl,g.o.trans (ag _)⟩
theorem AW(B:Nat)(env:List (ByteArray×Int))(x:X)(w:World)(z:Value)(V:List Value)(a3:Tabs w)(I:RX w B x V)(J:Sl RNm w B 2 env z)(y:B<=w.heap.size)(K:al x<=1000000000)(L:VX x)(b2:env.length<=1000000000):
 Calls Tryz.prog 147 #[.agg V.toArray,z] w λe q=>e=.returned (.tuple #[.agg #[.int .i64 (fX env x).1.1,.int .u64 (fX env x).1.2],.int .i64 (fX env x).2])/\Ext w q:=by
 have C:=Hd I;have D:=Hd a3;have O:=Hd J;obtain⟨N,rfl,a2⟩:=RX_iff.1 I;have c3:=a2.oneCell;have c4:=J.oneCell;obtain⟨b4,f,b7,M,c2,P,Q,R,S,T,U⟩:=cA w (.int .i64 x.op) (.string x.name) (.int .i64 x.n) (.int .i64 x.w) (.int .u64 x.v) N 40;obtain⟨u,a5,b0,a6⟩:=dd f.w (.int .i64 0) (.int .u64 0) 161;obtain⟨b5,a8⟩:=ae (af u);have b8:=a5.symm.trans a8;have i:=f.ext.trans b0;have h:=M.trans i;have l:w.heap.size<=f.w.heap.size:=ad M.size f.ext.size;have a1:B<=u.heap.size:=ad y h.size;have E:=Hd (show ECalls Tryz.prog 145 #[.agg #[.int .i64 x.op,.string x.name,.int .i64 x.n,.int .i64 x.w,.int .u64 x.v,N]] u (.int .i64 (er x)) from λq g=>nZ B x q _ (D.o.ext (h.trans g)) (C.o.ext (h.trans g) y) (ad a1 g.size) K L);have F:=Hd (show ECalls Tryz.prog 103 #[.agg #[.int .i64 x.op,.string x.name,.int .i64 x.n,.int .i64 x.w,.int .u64 x.v,N],z] u (cu (bA env x)) from λq g=>lQ B env x q z _ (D.o.ext (h.trans g)) (C.o.ext (h.trans g) y) (O.o.extN (h.trans g) y) (ad a1 g.size) K L b2);have P:=am P i;have Q:=am Q i;have R:=am R i;have S:=am S i;have T:=am T i;have U:=am U i;have G:=Hd h;have A:=Hd a6;have a7:0<=(bA env x).1/\(bA env x).1<=2147483647:=by
  unfold bA;split
  ·exact lx
  ·exact⟨zD,zD⟩
 have a9:fX env x=if x.op=1/\er x=0 then((x.w,x.v),0) else((0,(bA env x).1),(bA env x).2):=rfl
 rw[a9];clear a3 I J a2 M K C D O a9 L a5 a8 b0 a6 i h;generalize bA env x=r at*;obtain⟨m,b1⟩:=r;unfold cu at*;simp only at F a7⊢;obtain⟨b9,c0⟩:=a7;by_cases j:x.op=1
 ·by_cases k:er x=0
  ·rw[if_pos ⟨j,k⟩];rw[k] at E;generalize x.op=op at*;subst j;clear k
   go_in
   go_wp2_with fail
   refine(E.o.at_ _).mono ?_;rintro _ _ ⟨rfl,e,rfl⟩;have b:=A.o.ext e.ext;obtain⟨W,Y⟩:=b.get2;obtain⟨Z,a0⟩:=b.free2;obtain⟨c,a⟩:∃c,c=(e.w.setCell ⟨f.w.heap.size,0,none⟩ (.int .i64 x.w)).setCell ⟨f.w.heap.size,1,none⟩ (.int .u64 x.v):=⟨_,rfl⟩;have d:=b.store2 (.int .i64 x.w) (.int .u64 x.v);rw[<-a] at d;obtain⟨s,t⟩:=d.get2;have p:=Hd (show Ext w c by rw[a];exact((G.o.trans e.ext).setCell l _).setCell l _);have a4:=a.symm;clear b d a;go_wp2_with fail
   refine bodyPost_ret (v:=.tuple #[.agg #[.int .i64 x.w,.int .u64 x.v],.int .i64 0]) ?_ rfl ⟨rfl,p.o⟩;simp[results,results147,go_sem,s,t]
  ·rw[if_neg (λH=>k H.2)];generalize x.op=op at*;subst j;generalize er x=b3 at*;have c1:((b3:Int)==0)=false:=by simpa using k
   clear k
   go_in
   go_wp2_with (go_at_call 145;refine(E.o.at_ _).mono ?_;rintro _ _ ⟨rfl,e,rfl⟩)
   refine(F.o.at_ _).mono ?_;rintro _ _ ⟨rfl,e,rfl⟩;have b:=A.o.ext e.ext;obtain⟨W,Y⟩:=b.get2;obtain⟨Z,a0⟩:=b.free2;obtain⟨c,a⟩:∃c,c=(e.w.setCell ⟨f.w.heap.size,0,none⟩ (.int .i64 0)).setCell ⟨f.w.heap.size,1,none⟩ (.int .u64 m):=⟨_,rfl⟩;have d:=b.store2 (.int .i64 0) (.int .u64 m);rw[<-a] at d;obtain⟨s,t⟩:=d.get2;have p:=Hd (show Ext w c by rw[a];exact((G.o.trans e.ext).setCell l _).setCell l _);have a4:=a.symm;clear b d a;go_wp2_with fail
   refine bodyPost_ret (v:=.tuple #[.agg #[.int .i64 0,.int .u64 m],.int .i64 b1]) ?_ rfl ⟨rfl,p.o⟩;simp[results,results147,go_sem,s,t]
 ·rw[if_neg (λH=>j H.1)];have b6:((x.op:Int)==1)=false:=by simpa using j
  clear j
  go_in
  go_wp2_with fail
  refine(F.o.at_ _).mono ?_;rintro _ _ ⟨rfl,e,rfl⟩;have b:=A.o.ext e.ext;obtain⟨W,Y⟩:=b.get2;obtain⟨Z,a0⟩:=b.free2;obtain⟨c,a⟩:∃c,c=(e.w.setCell ⟨f.w.heap.size,0,none⟩ (.int .i64 0)).setCell ⟨f.w.heap.size,1,none⟩ (.int .u64 m):=⟨_,rfl⟩;have d:=b.store2 (.int .i64 0) (.int .u64 m);rw[<-a] at d;obtain⟨s,t⟩:=d.get2;have p:=Hd (show Ext w c by rw[a];exact((G.o.trans e.ext).setCell l _).setCell l _);have a4:=a.symm;clear b d a;go_wp2_with fail
  refine bodyPost_ret (v:=.tuple #[.agg #[.int .i64 0,.int .u64 m],.int .i64 b1]) ?_ rfl ⟨rfl,p.o⟩;simp[results,results147,go_sem,s,t]
end
section
open Go Go.RowKit Go.ChangeShapes Go.WideShapes Go.Proofs.Tryz
theorem pG:Tryz.prog.cellsOf 85=2:=by kernel_rfl
theorem oneN(p:ByteArray×Int)(a:List Value)(h:RNm p a):∀v,v∈a->v.oneCell'=true:=by
 unfold RNm at h;subst h;intro c b;simp only[List.mem_cons,List.not_mem_nil,or_false] at b;rcases b with rfl|rfl<;>rfl
theorem sA{b:Type}{enc:TypeId×Value->b}{w:World}{o:Nat->Bool}{j:Bool}(i:Nat)(c:List Value)(d:DataW b)(ps:List MemPlace)(h:DataW.trod enc Tryz.prog w 0 o j i 85 c=some (d,ps)):
 ∃g:ByteArray×Int,RNm g c/\True/\(λ_=>1) g<=Rows.uptoBulk d:=by
 obtain⟨v,n,-,u,k,l,a⟩:=DataW.trod_struct underlying85 h;obtain⟨s,t,rfl⟩:=lg (k.trans pG);obtain⟨x,y,rfl⟩:=lg l;have e:=a 0 _ rfl;have f:=a 1 _ rfl;clear a;simp[ia,gD] at e f;obtain⟨m,rfl,q⟩:=fN e;obtain⟨p,rfl,r⟩:=hY f;exact⟨(m,p),rfl,trivial,iR d⟩
theorem yu{α:Type}(l:List α):aa (λ_=>1) l=l.length:=by induction l with|nil=>rfl|cons a r ih=>simp[aa,ih];omega
theorem wv{a:Type}{enc:TypeId×Value->a}{W:World}{base:Nat}{e:Array TypeId}{args:Array Value}{v:Value}{d:DataW a}{p:List MemPlace}{u:Nat->Bool}{k:Bool}
 (r:∀(j:Nat) c v,e[j]? =some c->args[j]? =some v->Value.okWide Tryz.prog W .any base c v) (j:Nat) (n:e[j]? =some 80) (ha:args[j]? =some v)
 (h:DataW.Trod enc Tryz.prog W 0 u k 80 v d p) (y:Rows.uptoBulk d<=1048576):∃b:List (ByteArray×Int),Sl RNm W W.heap.size 2 b v/\b.length<=1048576:=by
 have A:=r j _ v n ha;obtain⟨x,m⟩:=h;obtain⟨l,w,z,o,-,s⟩:=dY (V:=λ_=>True) underlying80 pG zO oneN m (λi f g t _ q=>sA i f g t q);rw[yu] at s;refine⟨l,?_,zO⟩;obtain rfl:v=w:=by
  cases v<;>simp_all [Value.cells,Value.okWide,Cell.okWide,Cell.ok]
 exact o
end

import Derived.Test.YtlfmlodanoolhaaGreatDoorCards
import Derived.Test.YtlfmlodanoolhaaGreatDoorTie
import Derived.Test.YtlfmlodanoolhaaGreatDoorQPorts4
set_option linter.all false
set_option maxRecDepth 200000
set_option maxHeartbeats 0
namespace Go.Proofs.YtlfmlodanoolhaaGreatDoor
section
open Go Go.RowKit Go.ChangeShapes Go.WideShapes Go.Proofs.Tryz
theorem pW:Tryz.prog.cellsOf 85=2:=by kernel_rfl
theorem oneN(p:ByteArray×Int)(a:List Value)(h:RNm p a):∀v,v∈a->v.oneCell'=true:=by
 unfold RNm at h;subst h;intro c b;simp only[List.mem_cons,List.not_mem_nil,or_false] at b;rcases b with rfl|rfl<;>rfl
theorem tj{b:Type}{enc:TypeId×Value->b}{w:World}{o:Nat->Bool}{j:Bool}(i:Nat)(c:List Value)(d:DataW b)(ps:List MemPlace)(h:DataW.trod enc Tryz.prog w 0 o j i 85 c=some (d,ps)):
 ∃g:ByteArray×Int,RNm g c/\True/\(λ_=>1) g<=Rows.uptoBulk d:=by
 obtain⟨v,n,-,u,k,l,a⟩:=DataW.trod_struct underlying85 h;obtain⟨s,t,rfl⟩:=lr (k.trans pW);obtain⟨x,y,rfl⟩:=lr l;have e:=a 0 _ rfl;have f:=a 1 _ rfl;clear a;simp[ib,gI] at e f;obtain⟨m,rfl,q⟩:=fP e;obtain⟨p,rfl,r⟩:=hZ f;exact⟨(m,p),rfl,trivial,iW d⟩
theorem yR{α:Type}(l:List α):aa (λ_=>1) l=l.length:=by induction l with|nil=>rfl|cons a r ih=>simp[aa,ih];omega
theorem xc{a:Type}{enc:TypeId×Value->a}{W:World}{base:Nat}{e:Array TypeId}{args:Array Value}{v:Value}{d:DataW a}{p:List MemPlace}{u:Nat->Bool}{k:Bool}
 (r:∀(j:Nat) c v,e[j]? =some c->args[j]? =some v->Value.okWide Tryz.prog W .any base c v) (j:Nat) (n:e[j]? =some 80) (ha:args[j]? =some v)
 (h:DataW.Trod enc Tryz.prog W 0 u k 80 v d p) (y:Rows.uptoBulk d<=1048576):∃b:List (ByteArray×Int),Sl RNm W W.heap.size 2 b v/\b.length<=1048576:=by
 have A:=r j _ v n ha;obtain⟨x,m⟩:=h;obtain⟨l,w,z,o,-,s⟩:=dZ (V:=λ_=>True) underlying80 pW zO oneN m (λi f g t _ q=>tj i f g t q);rw[yR] at s;refine⟨l,?_,zO⟩;obtain rfl:v=w:=by
  cases v<;>simp_all [Value.cells,Value.okWide,Cell.okWide,Cell.ok]
 exact o
end
end Go.Proofs.YtlfmlodanoolhaaGreatDoor
namespace Go.Proofs.YtlfmlodanoolhaaGreatDoor.elabPorts
open Go Go.ChangeShapes Go.WideShapes Go.ChangeAt Go.RowKit Go.Proofs.Tryz
theorem contract(b:Type)(enc:TypeId×Value->b)(W:World)(base:Nat)(args:Array Value)(ds gs:List (DataW b))(l:List MemPlace)
 (G:∀(h:Nat) i v,Tryz.f7.params[h]? =some i->args[h]? =some v->Value.okWide Tryz.prog W .any base i v)
 (g:DataW.Whole enc Tryz.prog Tryz.f7.params.toList Rows.elabPortsSpec.vars false W args.toList ds gs l) (C:Rows.uptoSmall b (ds++gs)=true) (x:laidMetH Tryz.prog Rows.elabPortsUptoRow.laid W) (F:W.ShapedOpen Tryz.prog):
 Calls Tryz.prog 7 args W λe c=>∃v,e=.returned v/\Rows.elabPortsSpec.post enc Tryz.prog Tryz.f7 false true false false W args v c:=by
 obtain⟨y,z⟩:=rB x F;have B:=g;obtain⟨I,Z,w,A,rfl,-,-⟩:=g;have f:DataW.TrodAll enc Tryz.prog W 0 (λ_=>true) true Tryz.f7.params.toList args.toList ds I:=w;rw[Tryz.params7] at f;have a:=G;rw[Tryz.params7] at a;obtain⟨j,a3,m,R,V,a0,U,rfl,rfl,r,J⟩:=trodAll_cons f;obtain⟨k,a4,n,S,X,a1,rfl,rfl,rfl,t,K⟩:=trodAll_cons J;obtain⟨d,a5,o,T,Y,a2,rfl,rfl,rfl,u,L⟩:=trodAll_cons K;obtain⟨rfl,rfl,rfl⟩:=trodAll_nil L;obtain rfl:args=#[j,k,d]:=by cases args;simp_all
 obtain⟨rfl,rfl⟩:=trodVars_none A;have D:=sD C;simp only[List.append_nil,Rows.uptoBulkAll] at D;obtain⟨q,O,rfl,M,P,a6⟩:=su a 0 rfl rfl r zO;obtain⟨Q,rfl,a7⟩:=rl a 1 rfl rfl t zO;obtain⟨p,N,a8⟩:=xc a 2 rfl rfl u zO;refine(vP W.heap.size q O Q p d W y z M N (ac _) zO P zO).mono λe c E=>?_
 obtain⟨rfl,H⟩:=E;exact⟨_,rfl,sv underlying4 qg nW full (s:=Rows.elabPortsSpec) (ds:=[m,n,o]) (gs:=[]) rfl rfl (by rw[Tryz.params7];decide) B rfl H⟩
theorem reads(b:Os){a:Type}(enc:TypeId×Value->a):∃c,DataW.whole enc Tryz.prog ((ix b).forCall (λ_ _=>0) ⟨#[],#[ie,(.string ⟨#[]⟩),(.slice none 0 0)],[]⟩).memory Tryz.f7.params.toList Rows.elabPortsSpec.vars false (#[ie,(.string ⟨#[]⟩),(.slice none 0 0)]:Array Value).toList 8=some ([om,(.lit (.string [])),.nil],[],c):=
 ⟨[],zK⟩
theorem lifted(a:Os)(q:a.Started)(b:Type)(enc:TypeId×Value->b)(c:Stop.Interp):
 ReturnsInHanded {} Tryz.checked a 7 .any ((Rows.OpenSpec.upto Rows.elabPortsSpec).preRow enc Tryz.prog Tryz.f7 Rows.elabPortsUptoRow.domain false Rows.elabPortsUptoRow.laid) (((Rows.OpenSpec.upto Rows.elabPortsSpec).at c).post enc Tryz.prog Tryz.f7 false true false false):=by
 obtain⟨t,p⟩:=reads a enc
 refine returnsInHanded_of_row (C:=Tryz.checked) (s:=Rows.OpenSpec.upto Rows.elabPortsSpec) qt q zK func7
  (witness_row_at (enc:=enc) (C:=Tryz.checked) false (ix a) #[ie,(.string ⟨#[]⟩),(.slice none 0 0)] rfl zK zK zK
    (OpenSpec.preRow_of_cond 8 p zK (λr m=>by cases m;kernel_rfl) zK (sj a _))) ?_
 intro d f e h i g o k _ l _ j n _;exact contract b enc d f e h i g o k (l _ rfl) j n
theorem saidUpto:Rows.ElabPortsUptoSaid:=
 OpenClaim.holds_of_cond 7 Tryz.f7 rfl rfl rfl rfl rfl rfl rfl ⟨rfl,rfl,rfl,rfl,rfl⟩ rfl rfl rfl rfl rfl zK func7 zK
  (of_decide_eq_true zK) (by unfold Func.isWrapper;first|(rw[if_pos (by decide+kernel)];kernel_rfl)|(rw[if_neg (by decide+kernel)];exact⟨rfl,rfl⟩))
  (λc d b enc _ a=>by rw[OpenClaim.pre_eq_preRow];exact lifted c d b enc a)
theorem plain (f : FuncId) (a : Func) (e : Tryz.pinned.checked.prog.funcNamed "filigree/filigreelaw08.ElabPorts" = some f) (g : Tryz.pinned.checked.prog.funcs[f]? = some a) :
 true=Tryz.pinned.checked.prog.looks []/\∀(j:Nat) b,a.params[j]? =some b->Tryz.pinned.checked.prog.wantsStandIn b=false:=by
 obtain rfl : f = 7 := Option.some.inj ((show Tryz.prog.funcNamed "filigree/filigreelaw08.ElabPorts" = some 7 by kernel_rfl).symm.trans e) |>.symm
 obtain rfl:a=Tryz.f7:=(Option.some.inj (func7.symm.trans g)).symm;refine⟨zK,λj b d=>?_⟩;rw[Tryz.params7] at d;have c:=Array.mem_of_getElem? d;simp only[List.mem_toArray,List.mem_cons,List.not_mem_nil,or_false] at c;rcases c with rfl|rfl|rfl
 ·exact(show Tryz.prog.wantsStandIn 24=false by kernel_rfl)
 ·exact(show Tryz.prog.wantsStandIn 9=false by kernel_rfl)
 ·exact(show Tryz.prog.wantsStandIn 80=false by kernel_rfl)
theorem cardUpto:Rows.ElabPortsUptoCardSaid:=
 Claim7.holds_tied_plain_at .later [] _ _ _ _ saidUpto (λ_ a=>by cases a) zK (λ_ a=>by cases a) elabPortsUpto_row_tie rfl ⟨rfl,rfl⟩ zK rfl plain zK

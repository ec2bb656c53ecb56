import Derived.Test.YtlfmlodanoolhaaGreatDoorCards
import Derived.Test.YtlfmlodanoolhaaGreatDoorTie
import Derived.Test.YtlfmlodanoolhaaGreatDoorV52
set_option linter.all false
set_option maxRecDepth 200000
set_option maxHeartbeats 0
namespace Go.Proofs.YtlfmlodanoolhaaGreatDoor.elabWhole
open Go Go.ChangeShapes Go.WideShapes Go.ChangeAt Go.RowKit Go.Proofs.Tryz
theorem contract(b:Type)(enc:TypeId×Value->b)(W:World)(base:Nat)(args:Array Value)(ds gs:List (DataW b))(l:List MemPlace)
 (G:∀(h:Nat) i v,Tryz.f6.params[h]? =some i->args[h]? =some v->Value.okWide Tryz.prog W .any base i v)
 (g:DataW.Whole enc Tryz.prog Tryz.f6.params.toList Rows.elabWholeSpec.vars false W args.toList ds gs l) (C:Rows.uptoSmall b (ds++gs)=true) (x:laidMetH Tryz.prog Rows.elabWholeUptoRow.laid W) (F:W.ShapedOpen Tryz.prog):
 Calls Tryz.prog 6 args W λe c=>∃v,e=.returned v/\Rows.elabWholeSpec.post enc Tryz.prog Tryz.f6 false true false false W args v c:=by
 obtain⟨y,z⟩:=wS x F;have B:=g;obtain⟨I,Z,w,A,rfl,-,-⟩:=g;have f:DataW.TrodAll enc Tryz.prog W 0 (λ_=>true) true Tryz.f6.params.toList args.toList ds I:=w;rw[Tryz.params6] at f;have a:=G;rw[Tryz.params6] at a;obtain⟨j,a3,m,R,V,a0,U,rfl,rfl,r,J⟩:=trodAll_cons f;obtain⟨k,a4,n,S,X,a1,rfl,rfl,rfl,t,K⟩:=trodAll_cons J;obtain⟨d,a5,o,T,Y,a2,rfl,rfl,rfl,u,L⟩:=trodAll_cons K;obtain⟨rfl,rfl,rfl⟩:=trodAll_nil L;obtain rfl:args=#[j,k,d]:=by cases args;simp_all
 obtain⟨rfl,rfl⟩:=trodVars_none A;have D:=yS C;simp only[List.append_nil,Rows.uptoBulkAll] at D;obtain⟨q,O,rfl,M,P,a6⟩:=yz a 0 rfl rfl r zO;obtain⟨Q,rfl,a7⟩:=ww a 1 rfl rfl t zO;obtain⟨p,N,a8⟩:=wv a 2 rfl rfl u zO;refine(uR W.heap.size q O Q p d W y z M N (ac _) zO P zO).mono λe c E=>?_
 obtain⟨rfl,H⟩:=E;exact⟨_,rfl,yD underlying4 tN sW full (s:=Rows.elabWholeSpec) (ds:=[m,n,o]) (gs:=[]) rfl rfl (by rw[Tryz.params6];decide) B rfl H⟩
theorem reads(b:Os){a:Type}(enc:TypeId×Value->a):∃c,DataW.whole enc Tryz.prog ((mi b).forCall (λ_ _=>0) ⟨#[],#[lu,(.string ⟨#[]⟩),(.slice none 0 0)],[]⟩).memory Tryz.f6.params.toList Rows.elabWholeSpec.vars false (#[lu,(.string ⟨#[]⟩),(.slice none 0 0)]:Array Value).toList 8=some ([te,(.lit (.string [])),.nil],[],c):=
 ⟨[],zK⟩
theorem lifted(a:Os)(q:a.Started)(b:Type)(enc:TypeId×Value->b)(c:Stop.Interp):
 ReturnsInHanded {} Tryz.checked a 6 .any ((Rows.OpenSpec.upto Rows.elabWholeSpec).preRow enc Tryz.prog Tryz.f6 Rows.elabWholeUptoRow.domain false Rows.elabWholeUptoRow.laid) (((Rows.OpenSpec.upto Rows.elabWholeSpec).at c).post enc Tryz.prog Tryz.f6 false true false false):=by
 obtain⟨t,p⟩:=reads a enc
 refine returnsInHanded_of_row (C:=Tryz.checked) (s:=Rows.OpenSpec.upto Rows.elabWholeSpec) uj q zK func6
  (witness_row_at (enc:=enc) (C:=Tryz.checked) false (mi a) #[lu,(.string ⟨#[]⟩),(.slice none 0 0)] rfl zK zK zK
    (OpenSpec.preRow_of_cond 8 p zK (λr m=>by cases m;kernel_rfl) zK (yh a _))) ?_
 intro d f e h i g o k _ l _ j n _;exact contract b enc d f e h i g o k (l _ rfl) j n
theorem saidUpto:Rows.ElabWholeUptoSaid:=
 OpenClaim.holds_of_cond 6 Tryz.f6 rfl rfl rfl rfl rfl rfl rfl ⟨rfl,rfl,rfl,rfl,rfl⟩ rfl rfl rfl rfl rfl zK func6 zK
  (of_decide_eq_true zK) (by unfold Func.isWrapper;first|(rw[if_pos (by decide+kernel)];kernel_rfl)|(rw[if_neg (by decide+kernel)];exact⟨rfl,rfl⟩))
  (λc d b enc _ a=>by rw[OpenClaim.pre_eq_preRow];exact lifted c d b enc a)
theorem plain (f : FuncId) (a : Func) (e : Tryz.pinned.checked.prog.funcNamed "filigree/filigreelaw08.ElabWhole" = some f) (g : Tryz.pinned.checked.prog.funcs[f]? = some a) :
 true=Tryz.pinned.checked.prog.looks []/\∀(j:Nat) b,a.params[j]? =some b->Tryz.pinned.checked.prog.wantsStandIn b=false:=by
 obtain rfl : f = 6 := Option.some.inj ((show Tryz.prog.funcNamed "filigree/filigreelaw08.ElabWhole" = some 6 by kernel_rfl).symm.trans e) |>.symm
 obtain rfl:a=Tryz.f6:=(Option.some.inj (func6.symm.trans g)).symm;refine⟨zK,λj b d=>?_⟩;rw[Tryz.params6] at d;have c:=Array.mem_of_getElem? d;simp only[List.mem_toArray,List.mem_cons,List.not_mem_nil,or_false] at c;rcases c with rfl|rfl|rfl
 ·exact(show Tryz.prog.wantsStandIn 24=false by kernel_rfl)
 ·exact(show Tryz.prog.wantsStandIn 9=false by kernel_rfl)
 ·exact(show Tryz.prog.wantsStandIn 80=false by kernel_rfl)
theorem cardUpto:Rows.ElabWholeUptoCardSaid:=
 Claim7.holds_tied_plain_at .later [] _ _ _ _ saidUpto (λ_ a=>by cases a) zK (λ_ a=>by cases a) elabWholeUpto_row_tie rfl ⟨rfl,rfl⟩ zK rfl plain zK

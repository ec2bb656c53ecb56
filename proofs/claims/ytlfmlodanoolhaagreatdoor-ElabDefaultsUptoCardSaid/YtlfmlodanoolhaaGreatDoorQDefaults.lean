import Derived.Test.YtlfmlodanoolhaaGreatDoorCards
import Derived.Test.YtlfmlodanoolhaaGreatDoorTie
import Derived.Test.YtlfmlodanoolhaaGreatDoorQDefaults1
set_option linter.all false
set_option maxRecDepth 200000
set_option maxHeartbeats 0
namespace Go.Proofs.YtlfmlodanoolhaaGreatDoor.elabDefaults
open Go Go.ChangeShapes Go.WideShapes Go.ChangeAt Go.RowKit Go.Proofs.Tryz
theorem contract(a:Type)(enc:TypeId×Value->a)(W:World)(base:Nat)(args:Array Value)(ds gs:List (DataW a))(k:List MemPlace)
 (C:∀(g:Nat) h v,Tryz.f8.params[g]? =some h->args[g]? =some v->Value.okWide Tryz.prog W .any base h v)
 (f:DataW.Whole enc Tryz.prog Tryz.f8.params.toList Rows.elabDefaultsSpec.vars false W args.toList ds gs k) (y:Rows.uptoSmall a (ds++gs)=true) (r:laidMetH Tryz.prog Rows.elabDefaultsUptoRow.laid W) (B:W.ShapedOpen Tryz.prog):
 Calls Tryz.prog 8 args W λe c=>∃v,e=.returned v/\Rows.elabDefaultsSpec.post enc Tryz.prog Tryz.f8 false true false false W args v c:=by
 obtain⟨t,u⟩:=rB r B;have x:=f;obtain⟨E,Q,q,w,rfl,-,-⟩:=f;have d:DataW.TrodAll enc Tryz.prog W 0 (λ_=>true) true Tryz.f8.params.toList args.toList ds E:=q;rw[Tryz.params8] at d;have b:=C;rw[Tryz.params8] at b;obtain⟨i,T,l,L,O,R,N,rfl,rfl,o,F⟩:=trodAll_cons d;obtain⟨j,U,m,M,P,S,rfl,rfl,rfl,p,G⟩:=trodAll_cons F;obtain⟨rfl,rfl,rfl⟩:=trodAll_nil G;obtain rfl:args=#[i,j]:=by cases args;simp_all
 obtain⟨rfl,rfl⟩:=trodVars_none w;have z:=sD y;simp only[List.append_nil,Rows.uptoBulkAll] at z;obtain⟨n,I,rfl,H,J,V⟩:=su b 0 rfl rfl o zO;obtain⟨K,rfl,X⟩:=rl b 1 rfl rfl p zO;refine(vW W.heap.size n I K W t u H (ac _) zO J).mono λe c A=>?_
 obtain⟨rfl,D⟩:=A;exact⟨_,rfl,sv underlying4 qg nW full (s:=Rows.elabDefaultsSpec) (ds:=[l,m]) (gs:=[]) rfl rfl (by rw[Tryz.params8];decide) x rfl D⟩
theorem reads(b:Os){a:Type}(enc:TypeId×Value->a):∃c,DataW.whole enc Tryz.prog ((ix b).forCall (λ_ _=>0) ⟨#[],#[ie,(.string ⟨#[]⟩)],[]⟩).memory Tryz.f8.params.toList Rows.elabDefaultsSpec.vars false (#[ie,(.string ⟨#[]⟩)]:Array Value).toList 8=some ([om,(.lit (.string []))],[],c):=
 ⟨[],zK⟩
theorem lifted(a:Os)(q:a.Started)(b:Type)(enc:TypeId×Value->b)(c:Stop.Interp):
 ReturnsInHanded {} Tryz.checked a 8 .any ((Rows.OpenSpec.upto Rows.elabDefaultsSpec).preRow enc Tryz.prog Tryz.f8 Rows.elabDefaultsUptoRow.domain false Rows.elabDefaultsUptoRow.laid) (((Rows.OpenSpec.upto Rows.elabDefaultsSpec).at c).post enc Tryz.prog Tryz.f8 false true false false):=by
 obtain⟨t,p⟩:=reads a enc
 refine returnsInHanded_of_row (C:=Tryz.checked) (s:=Rows.OpenSpec.upto Rows.elabDefaultsSpec) qt q zK func8
  (witness_row_at (enc:=enc) (C:=Tryz.checked) false (ix a) #[ie,(.string ⟨#[]⟩)] rfl zK zK zK
    (OpenSpec.preRow_of_cond 8 p zK (λr m=>by cases m;kernel_rfl) zK (sj a _))) ?_
 intro d f e h i g o k _ l _ j n _;exact contract b enc d f e h i g o k (l _ rfl) j n
theorem saidUpto:Rows.ElabDefaultsUptoSaid:=
 OpenClaim.holds_of_cond 8 Tryz.f8 rfl rfl rfl rfl rfl rfl rfl ⟨rfl,rfl,rfl,rfl,rfl⟩ rfl rfl rfl rfl rfl zK func8 zK
  (of_decide_eq_true zK) (by unfold Func.isWrapper;first|(rw[if_pos (by decide+kernel)];kernel_rfl)|(rw[if_neg (by decide+kernel)];exact⟨rfl,rfl⟩))
  (λc d b enc _ a=>by rw[OpenClaim.pre_eq_preRow];exact lifted c d b enc a)
theorem plain (f : FuncId) (a : Func) (e : Tryz.pinned.checked.prog.funcNamed "filigree/filigreelaw08.ElabDefaults" = some f) (g : Tryz.pinned.checked.prog.funcs[f]? = some a) :
 true=Tryz.pinned.checked.prog.looks []/\∀(j:Nat) b,a.params[j]? =some b->Tryz.pinned.checked.prog.wantsStandIn b=false:=by
 obtain rfl : f = 8 := Option.some.inj ((show Tryz.prog.funcNamed "filigree/filigreelaw08.ElabDefaults" = some 8 by kernel_rfl).symm.trans e) |>.symm
 obtain rfl:a=Tryz.f8:=(Option.some.inj (func8.symm.trans g)).symm;refine⟨zK,λj b d=>?_⟩;rw[Tryz.params8] at d;have c:=Array.mem_of_getElem? d;simp only[List.mem_toArray,List.mem_cons,List.not_mem_nil,or_false] at c;rcases c with rfl|rfl
 ·exact(show Tryz.prog.wantsStandIn 24=false by kernel_rfl)
 ·exact(show Tryz.prog.wantsStandIn 9=false by kernel_rfl)
theorem cardUpto:Rows.ElabDefaultsUptoCardSaid:=
 Claim7.holds_tied_plain_at .later [] _ _ _ _ saidUpto (λ_ a=>by cases a) zK (λ_ a=>by cases a) elabDefaultsUpto_row_tie rfl ⟨rfl,rfl⟩ zK rfl plain zK

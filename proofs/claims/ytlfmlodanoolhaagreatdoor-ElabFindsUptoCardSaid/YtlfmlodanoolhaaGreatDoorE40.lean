import Derived.Laws.CopyRow
import Derived.Test.YtlfmlodanoolhaaGreatDoorE39
set_option linter.all false
set_option maxRecDepth 200000
set_option maxHeartbeats 32000000
namespace Go.Proofs.YtlfmlodanoolhaaGreatDoor
open Go Go.RowKit Go.Proofs.Tryz
attribute [local go_sem] z0f
theorem j1f{P:Program}(w:World)(dT sT ty elem:TypeId)(g o dLen dCap:Nat)(a:Addr)(sLen sCap sz:Nat)(cur:Array Value)(t:TypeId)(cs:List Value)
 (hu:P.underlying dT=some (.slice elem)) (hs:(P.info? elem).map (·.size)=some sz)
 (hg:w.heap[g]? =some (.cells cur t (0,0))) (hn:cs.length=Nat.min sLen dLen*sz)
 (hsrc:∀j v,cs[j]? =some v→w.cell? (a.add j)=some v) (hfit:o+cs.length≤cur.size) (h1:∀v∈cs,v.oneCell'=true):
 (Builtin.copy_ #[dT,sT] ty #[.slice (some ⟨g,o,none⟩) dLen dCap,.slice (some a) sLen sCap]).run P w=
   .ok (goInt (Nat.min sLen dLen)) (w.setRow g (cur.toList.take o++cs++cur.toList.drop (o+cs.length)).toArray):=by
 have hl:=run_loadCells_list (P:=P) w a cs hsrc;have hst:=run_storeCells_at P g o t cs 0 cur w hg (by simpa using hfit) h1;cases hq:P.info? elem with
 |none=>simp[hq] at hs
 |some i=>
  have hi:i.size=sz:=by simpa [hq] using hs
  simp[Builtin.copy_,run_underlying hu,Builtin.lenOf,Builtin.firstCells,sizeOf,typeInfo,hq,hi,←hn,hl,hst]
theorem k9d(n:Nat)(h:n≤1000000000):∃arr:Array Value,arr.size=n*8∧∀w:World,(Instr.makeSlice 58 (.int .i64 n) (.int .i64 n)).run Tryz.prog w=.ok (.slice (some ⟨w.heap.size,0,none⟩) n n) (w.alloc (.cells arr 60)):=by
 obtain⟨ti,hti,htz,hts,htb⟩:=info_parts k7o;refine⟨madeCells (Value.agg #[.int .i64 0,.int .i64 0,.int .u64 0,.int .i64 0,.int .i64 0,.int .i64 0,.int .i64 0,.slice none 0 0]).cells (n*8),size_madeCells _ _,fun w=>?_⟩;have:=run_make (P:=Tryz.prog) w 58 60 ti _ underlying58 hti htz .i64 .i64 n n (by omega) (Int.le_refl _) (by rw[htb];omega) (by omega);rw[hts] at this;simpa using this
def z3l(n:Nat)(ys:List Value):List Value:=(List.replicate n ys).flatten
theorem z3g(n:Nat){ys:List Value}(h:ys.length=8):(z3l n ys).length=n*8:=by
 induction n with
 |zero=>rfl
 |succ n ih=>unfold z3l at ih⊢;rw[List.replicate_succ,List.flatten_cons,List.length_append,ih,h];omega
theorem q0a(n m:Nat)(ys:List Value):z3l (n+m) ys=z3l n ys++z3l m ys:=by
 unfold z3l;rw[←List.replicate_append_replicate,List.flatten_append]
theorem j8c{n:Nat}{ys:List Value}{u:Value}(h:u∈z3l n ys):u∈ys:=by
 unfold z3l at h;obtain⟨l,hl,hu⟩:=List.mem_flatten.1 h;rw[List.eq_of_mem_replicate hl] at hu;exact hu
theorem k2n{n k:Nat}{ys:List Value}(h:ys.length=8)(hk:k<n){j:Nat}{u:Value}(hu:ys[j]? =some u):(z3l n ys)[k*8+j]? =some u:=by
 have hj:j<8:=by rw[←h];exact(y1t.1 hu).1
 have e:n=k+(1+(n - k - 1)):=by omega
 rw[e,q0a,q0a,List.getElem?_append_right (by rw[z3g _ h];omega),z3g _ h,Nat.add_sub_cancel_left,List.getElem?_append_left (by rw[z3g _ h];omega)];unfold z3l;simpa using hu
theorem j8b{m k:Nat}{ys:List Value}(hm:m≤k){j:Nat}{u:Value}(hu:(z3l m ys)[j]? =some u):(z3l k ys)[j]? =some u:=by
 obtain⟨d,rfl⟩:=Nat.exists_eq_add_of_le hm;rw[q0a,List.getElem?_append_left (List.getElem?_eq_some_iff.1 hu).1];exact hu
structure RepI(w:World)(g N k:Nat)(ys:List Value)(wr:World):Prop where
 ext:Ext w wr
 row:∃tl:List Value,wr.heap[g]? =some (.cells (z3l k ys++tl).toArray 60 (0,0))∧(z3l k ys++tl).length=N*8
theorem RepI.copy{w:World}{g N k m d:Nat}{ys:List Value}{wr:World}(h:RepI w g N k ys wr)(hy:ys.length=8)(hgw:w.heap.size≤g)(hm:k+m≤N):
 ∃cur:Array Value,wr.heap[g]? =some (.cells cur 60 (0,0))∧cur.size=N*8∧RepI w g N (k+m) ys (wr.setRow g (cur.toList.take (k*8)++z3l m ys++cur.toList.drop (k*8+(z3l m ys).length)).toArray):=by
 obtain⟨tl,hg,hl⟩:=h.row;refine⟨_,hg,by simpa using hl,?_,?_⟩
 ·exact⟨h.ext.os,h.ext.tape,h.ext.output,y1k h.ext.size (by simp[World.setRow]),fun b hb=>(setRow_other wr g b _ (by omega)).trans (h.ext.block b hb)⟩
 ·refine⟨(z3l k ys++tl).drop (k*8+(z3l m ys).length),?_,?_⟩
  ·rw[setRow_heap wr g _ _ _ _ hg];simp only[List.toList_toArray];rw[List.take_append_of_le_length (by rw[z3g _ hy];exact y1j _),List.take_of_length_le (by rw[z3g _ hy];exact y1j _),q0a]
  ·rw[List.length_append,List.length_drop,hl,z3g _ hy,z3g _ hy];omega
theorem RepI.cell{w:World}{g N k:Nat}{ys:List Value}{wr:World}(h:RepI w g N k ys wr){j:Nat}{u:Value}(hu:(z3l k ys)[j]? =some u):wr.cell? ⟨g,j,none⟩=some u:=by
 obtain⟨tl,hg,hl⟩:=h.row;have hj:=(y1t.1 hu).1;simp only[World.cell?,hg,List.getElem?_toArray];rw[List.getElem?_append_left hj];exact hu
theorem z7x{P:Program}{w:World}{ops:Array Oper}{rest:List Oper}{o:Oper}{a:Act}{Q:Exit→Act→World→Prop}(hgd:o.guard=none)(d s:Operand)(dT sT:TypeId)
 (ho:o.op=.call {callee:=.builtin .copy,args:=#[d,s],argTypes:=#[dT,sT]}) (elem:TypeId) (hu:P.underlying dT=some (.slice elem)) (hsz:(P.info? elem).map (·.size)=some 8)
 {w0:World} {g N k:Nat} {ys:List Value} (hr:RepI w0 g N k ys w) (hy:ys.length=8) (h1:∀u,u∈ys→u.oneCell'=true) (hgw:w0.heap.size≤g)
 (off dLen dCap:Nat) (ad:Addr) (sLen sCap:Nat) (hd:a.eval d=.slice (some ⟨g,off,none⟩) dLen dCap) (hof:off=k*8) (hs:a.eval s=.slice (some ad) sLen sCap) (m:Nat) (hm:m=Nat.min sLen dLen) (hkm:k+m≤N)
 (hsrc:∀j u,(z3l m ys)[j]? =some u→w.cell? (ad.add j)=some u)
 (h:∀w',RepI w0 g N (k+m) ys w'→wpList P ops Q rest (a.put o.dst (.int .i64 m)) w'):wpList P ops Q (o::rest) a w:=by
 subst hof;obtain⟨cur,hg,hsz',hrep⟩:=hr.copy (m:=m) (d:=0) hy hgw hkm;refine wpList_plain hgd fun K hK=>?_
 have hrun:=j1f (P:=P) w dT sT o.type elem g (k*8) dLen dCap ad sLen sCap 8 cur _ (z3l m ys) hu hsz hg (by rw[z3g _ hy,hm]) hsrc (by rw[z3g _ hy,hsz',←Nat.add_mul];exact Nat.mul_le_mul_right 8 hkm) (fun v hv=>h1 v (j8c hv));rw[←hm] at hrun;obtain⟨w',hw'⟩:∃w',w'=w.setRow g (cur.toList.take (k*8)++z3l m ys++cur.toList.drop (k*8+(z3l m ys).length)).toArray:=⟨_,rfl⟩;rw[←hw'] at hrun hrep;unfold Oper.wp;simp[execOp,ho,resolve,invoke,builtin,hd,hs,hrun,Result.andThen];exact hK _ _ (h _ hrep)
theorem RepI.later{w:World}{g N k:Nat}{ys:List Value}{wr wr':World}(h:RepI w g N k ys wr)(hx:Ext wr wr'):RepI w g N k ys wr':=by
 obtain⟨tl,hg,hl⟩:=h.row;exact⟨h.ext.trans hx,tl,(hx.heap (y1n.1 hg).1).trans hg,hl⟩
theorem j4y(n b o c:Nat)(ys:List Value)(w:World)(h1:1≤n)(hn:n≤64)(hC:Cells w b o ys)(hy:ys.length=8)(h1c:∀u,u∈ys→u.oneCell'=true):
 Calls Tryz.prog 191 #[.slice (some ⟨b,o,none⟩) 1 c,.int .i64 n] w fun e w'=>e=.returned (.slice (some ⟨w.heap.size,0,none⟩) n n)∧RepI w w.heap.size n n ys w':=by
 have HC:=Hd hC;have H1:=Hd h1c;obtain⟨arr,harr,hmake⟩:=k9d n (by omega);have hn0:¬((n:Int)<0):=by omega
 obtain⟨W1,hW1⟩:∃W1,W1=w.alloc (.cells arr 60):=⟨_,rfl⟩;have hV1:=hW1.symm;have HR0:=Hd (show RepI w w.heap.size n 0 ys W1 from⟨by rw[hW1];exact y1v _ _,arr.toList,by rw[hW1];show(w.heap.push _)[w.heap.size]? =_;simp[z3l],by simp[z3l,harr]⟩);have HX1:=Hd (show Ext w W1 by rw[hW1];exact y1v _ _);have KM:=Hd (show Calls Tryz.prog 215 #[.int .u64 1,.int .u64 n] w fun e w'=>e=.returned (.tuple #[.int .u64 0,.int .u64 n])∧w'=w from by
  have:=Tryz.bits_Mul 1 n (by decide) (by omega) w;rw[show 1*n / 18446744073709551616=0 by omega,show 1*n % 18446744073709551616=n by omega] at this;exact this)
 have hn1:¬((n:Int)>9223372036854775807):=by omega
 clear hW1;clear hC h1c;go_enter func191,ntmps191;go_wp2_with fail
 go_at_call 215;refine KM.o.mono ?_;rintro _ w ⟨rfl,rfl⟩
 go_wp2_with (first
  |(refine z7x rfl _ _ 58 58 rfl 60 underlying58 (by kernel_rfl) HR0.o hy H1.o (y1j _) 0 n n ⟨b,o,none⟩ 1 c rfl rfl rfl 1 (Nat.min_eq_left h1).symm h1 (fun j u hu=>by rw[z4d];exact HX1.o.at_ (HC.o j u (by simpa [z3l] using hu))) ?_;intro W2 hr2))
 have HR2:=Hd (show RepI w w.heap.size n 1 ys W2 from hr2);clear hr2 HR0 hV1 HX1;go_loopw [8] (fun v8 wr=>∃k:Nat,v8=.int .i64 k∧1≤k∧k≤n∧RepI w w.heap.size n k ys wr) (fun v8 _=>n - (intOf v8).toNat)
 case atStart=>exact⟨1,rfl,y1j _,h1,HR2.o⟩
 case round=>
  obtain⟨k,rfl,hk1,hkn,hr⟩:=hrel;have HR:=Hd hr;clear hr;by_cases hlt:k<n
  ·have hlt':(k:Int)<(n:Int):=by omega
   have hle':(k:Int)≤(n:Int):=by omega
   have hnk:¬n=k:=by omega
   go_wp2_with fail
   refine wp_region_any (by kernel_rfl) ?_;refine wpAny_take (i:=0) (v:=.int .i64 k) rfl (by kernel_rfl) (by kernel_rfl) (by kernel_rfl) (fun _ _ _ h=>h) (q3h 8 rfl rfl rfl) ?_;simp only[Act.put,List.setIfInBounds_toArray,List.set_cons_zero,List.set_cons_succ];refine j0t 7 [0] #[true,false,false,false,false,false,false] (W:=wr) (Ext) (eqG [.int .i64 k,.slice (some ⟨w.heap.size,0,none⟩) n n,.int .i64 k,.slice (some ⟨w.heap.size,k*8,none⟩) (n - k) (n - k),.slice (some ⟨w.heap.size,0,none⟩) n n,.int .i64 k,.slice (some ⟨w.heap.size,0,none⟩) k n]) (fun _ _=>False) (fun _=>true) (z0s) (by kernel_rfl) (by kernel_rfl) rfl (by kernel_rfl) (by kernel_rfl) (by kernel_rfl) (by kernel_rfl) (fun h=>absurd h (by decide)) ?_ ((z0s).drew _ _ (y1g _)) (fun i v w w' h hx=>z7l h hx) ?_ (by kernel_rfl) ?_ (fun A ch w hd hp=>hp.elim) ?_
   ·exact⟨rfl,rfl,rfl,rfl,rfl,rfl,rfl,trivial⟩
   ·refine⟨?_,?_,?_,?_,?_,?_,?_,trivial⟩
    all_goals
     intro A wa hxa hd h0;obtain⟨ea,rfl⟩:=y1h hxa;try (have q1:=z0d hd 1 39 (by decide) rfl;simp[eqG] at q1)
     try (have q2:=z0d hd 2 40 (by decide) rfl;simp[eqG] at q2)
     try (have q4:=z0d hd 4 42 (by decide) rfl;simp[eqG] at q4)
     try (have q5:=z0d hd 5 43 (by decide) rfl;simp[eqG] at q5)
     have r8:=z0c h0 8 (by kernel_rfl);simp at r8;have r7:=z0c h0 7 (by kernel_rfl);simp at r7;clear hd h0;go_simp;first|exact⟨_,rfl,y1g _,rfl⟩|exact⟨y1g _,rfl⟩|exact rfl|exact⟨_,rfl,rfl⟩|exact y1g _
   ·intro j hj d hd;simp at hj;subst hj;obtain rfl:38=d:=by simpa using hd
    exact rfl
   ·intro A wa hk;obtain⟨f,rfl,hxa,hdn,hrs⟩:=hk.fin (n:=48) rfl;obtain⟨ea,rfl⟩:=y1h hxa;have k0:=hrs 0 (by kernel_rfl);have k1:=hrs 1 (by kernel_rfl);have k2:=hrs 2 (by kernel_rfl);have k3:=hrs 3 (by kernel_rfl);have k4:=hrs 4 (by kernel_rfl);have k5:=hrs 5 (by kernel_rfl);have k6:=hrs 6 (by kernel_rfl);have k7:=hrs 7 (by kernel_rfl);have k8:=hrs 8 (by kernel_rfl);have k9:=hrs 9 (by kernel_rfl);have k10:=hrs 10 (by kernel_rfl);have k11:=hrs 11 (by kernel_rfl);have k12:=hrs 12 (by kernel_rfl);have k13:=hrs 13 (by kernel_rfl);have k14:=hrs 14 (by kernel_rfl);have k15:=hrs 15 (by kernel_rfl);have k16:=hrs 16 (by kernel_rfl);have k17:=hrs 17 (by kernel_rfl);have k18:=hrs 18 (by kernel_rfl);have k19:=hrs 19 (by kernel_rfl);have k20:=hrs 20 (by kernel_rfl);have k21:=hrs 21 (by kernel_rfl);have k22:=hrs 22 (by kernel_rfl);have k23:=hrs 23 (by kernel_rfl);have k24:=hrs 24 (by kernel_rfl);have k25:=hrs 25 (by kernel_rfl);have k26:=hrs 26 (by kernel_rfl);have k27:=hrs 27 (by kernel_rfl);have k28:=hrs 28 (by kernel_rfl);have k29:=hrs 29 (by kernel_rfl);have k30:=hrs 30 (by kernel_rfl);have k31:=hrs 31 (by kernel_rfl);have k32:=hrs 32 (by kernel_rfl);have k33:=hrs 33 (by kernel_rfl);have k34:=hrs 34 (by kernel_rfl);have k35:=hrs 35 (by kernel_rfl);have k36:=hrs 36 (by kernel_rfl);have k37:=hrs 37 (by kernel_rfl);have k45:=hrs 45 (by kernel_rfl);have k46:=hrs 46 (by kernel_rfl);have k47:=hrs 47 (by kernel_rfl);have k38:f 38=.int .i64 k:=hdn 0 38 rfl rfl;have k41:f 41=.slice (some ⟨w.heap.size,k*8,none⟩) (n - k) (n - k):=hdn 3 41 rfl rfl;have k44:f 44=.slice (some ⟨w.heap.size,0,none⟩) k n:=hdn 6 44 rfl rfl;clear hdn hrs;simp at k0 k1 k2 k3 k4 k5 k6 k7 k8 k9 k10 k11 k12 k13 k14 k15 k16 k17 k18 k19 k20 k21 k22 k23 k24 k25 k26 k27 k28 k29 k30 k31 k32 k33 k34 k35 k36 k37 k45 k46 k47;simp only[List.drop_succ_cons,List.drop_zero];simp[List.range,List.range.loop,k0,k1,k2,k3,k4,k5,k6,k7,k8,k9,k10,k11,k12,k13,k14,k15,k16,k17,k18,k19,k20,k21,k22,k23,k24,k25,k26,k27,k28,k29,k30,k31,k32,k33,k34,k35,k36,k37,k45,k46,k47,k38,k41,k44];clear k0 k1 k2 k3 k4 k5 k6 k7 k8 k9 k10 k11 k12 k13 k14 k15 k16 k17 k18 k19 k20 k21 k22 k23 k24 k25 k26 k27 k28 k29 k30 k31 k32 k33 k34 k35 k36 k37 k45 k46 k47 k38 k41 k44;obtain⟨m,hm⟩:∃m,m=Nat.min k (n - k):=⟨_,rfl⟩;have hm1:1≤m:=by rw[hm];exact Nat.le_min.2 ⟨hk1,by omega⟩
    have hm2:m≤k:=by rw[hm];exact Nat.min_le_left _ _
    have hm3:m≤n - k:=by rw[hm];exact Nat.min_le_right _ _
    have HRL:=Hd (HR.o.later ea.ext);have HM:=Hd hm;clear hm
    go_wp2_with (first
     |(refine z7x rfl _ _ 58 58 rfl 60 underlying58 (by kernel_rfl) HRL.o hy H1.o (y1j _) (k*8) (n - k) (n - k) ⟨w.heap.size,0,none⟩ k n rfl rfl rfl m HM.o (by omega) (fun j u hu=>by rw[z4d];exact HRL.o.cell (j8b hm2 (by rw[Nat.zero_add];exact hu))) ?_;intro W3 hr3))
    have HR3:=Hd hr3;clear hr3;go_roundw;case rel=>exact⟨k+m,by go_num,by omega,by omega,HR3.o⟩
    case measure=>simp[intOf];omega
  ·have hlt':¬((k:Int)<(n:Int)):=by omega
   obtain rfl:k=n:=by omega
   go_wp2_with fail
   go_ret;exact⟨rfl,HR.o⟩
def j6t(W:World)(ys:List Value)(n:Nat)(nn:Int)(vals:List Value)(i:Nat)(v:Value)(w:World):Prop:=
 if i=2 then∃g,v=.slice (some ⟨g,0,none⟩) 1 1∧Blk w g 60 ys
 else if i=4 then∃g,v=.slice (some ⟨g,0,none⟩) n n∧W.heap.size≤g∧Blk w g 60 (z3l n ys)
 else if i=5 then∃g,v=.agg #[.int .i64 7,.int .i64 0,.int .u64 0,.int .i64 0,.int .i64 0,.int .i64 0,.int .i64 0,.slice (some ⟨g,0,none⟩) n n]∧W.heap.size≤g∧Blk w g 60 (z3l n ys)
 else if i=11 then∃g,v=.agg #[.int .i64 7,.int .i64 0,.int .u64 0,.int .i64 0,.int .i64 0,.int .i64 0,.int .i64 0,.slice (some ⟨g,0,none⟩) n n,.int .i64 nn]∧W.heap.size≤g∧Blk w g 60 (z3l n ys)
 else v=vals.getD i undef
theorem k2p{W:World}{ys:List Value}{n:Nat}{nn:Int}{vals:List Value}{i:Nat}{v:Value}{w w':World}(h:j6t W ys n nn vals i v w)(hx:Ext w w'):j6t W ys n nn vals i v w':=by
 unfold j6t at h⊢;split
 ·rename_i hi;rw[if_pos hi] at h;obtain⟨g,h1,h2⟩:=h;exact⟨g,h1,h2.ext hx⟩
 rename_i hi
 rw[if_neg hi] at h;split
 ·rename_i hi;rw[if_pos hi] at h;obtain⟨g,h1,h2,h3⟩:=h;exact⟨g,h1,h2,h3.ext hx⟩
 rename_i hi
 rw[if_neg hi] at h;split
 ·rename_i hi;rw[if_pos hi] at h;obtain⟨g,h1,h2,h3⟩:=h;exact⟨g,h1,h2,h3.ext hx⟩
 rename_i hi
 rw[if_neg hi] at h;split
 ·rename_i hi;rw[if_pos hi] at h;obtain⟨g,h1,h2,h3⟩:=h;exact⟨g,h1,h2,h3.ext hx⟩
 ·rename_i hi;rw[if_neg hi] at h;exact h
theorem RepI.blk{w:World}{g n:Nat}{ys:List Value}{wr:World}(h:RepI w g n n ys wr)(hy:ys.length=8):Blk wr g 60 (z3l n ys):=by
 obtain⟨tl,hg,hl⟩:=h.row;rw[List.length_append,z3g _ hy] at hl;obtain rfl:tl=[]:=y1q (by omega);rw[List.append_nil] at hg;exact hg
theorem k6h{Y:Nat→Prop}{w:World}{g n:Nat}{y:DE}{ys:List Value}(hb:Blk w g 60 (z3l n ys))(hy:RE9 Y w y ys)(hg:Y g):SlY Y 60 (RE9 Y w) w 8 (List.replicate n y) (.slice (some ⟨g,0,none⟩) n n):=by
 refine⟨_,n,by rw[List.length_replicate],by rw[List.length_replicate];exact y1j _,fun k hk=>?_⟩;have hk':k<n:=by rw[List.length_replicate] at hk;exact hk
 refine⟨g,0,ys,rfl,hg,hb.tag,hy.len,fun j u hu=>?_,fun v hv=>hy.one v hv,by rw[List.getElem_replicate];exact hy⟩;rw[Nat.zero_add];have:=hb.cells (k*8+j) u (k2n hy.len hk' hu);simpa using this
theorem k0p(W0:World)(B N0 mb sb mp:Nat)(vf vs vp vc ve:Value)(m:Mk)(s:Sc)(x:X)(cs:List Value)(w:World)(hc:Cx W0 B w)(hX:XOk W0 B x cs)(h:MkI w N0 mb vf vs vp vc m)(hs:ScI w sb mp ve s)(hg:Good m.d.sigs s)(hop:x.op=9)(hl:1<x.l.length)
 (hf:∀y,y∈x.l→∀(w':World) (cs:List Value),Ext w w'→RX W0 B y cs→z9b Tryz.prog 150 #[.pointer (some ⟨mb,0,none⟩),.pointer (some ⟨sb,0,none⟩),.agg cs.toArray] w' (z1f m.d.sigs s y) (z5n w') (Ext w')):
 z9b Tryz.prog 150 #[.pointer (some ⟨mb,0,none⟩),.pointer (some ⟨sb,0,none⟩),.agg cs.toArray] w (z1f m.d.sigs s x) (z5n w) (Ext w):=by
 have HC:=Hd hc;have HS:=Hd hs;have HG:=Hd hg;obtain⟨x5,rfl,h5⟩:=RX_iff.1 hX.rx;obtain⟨la,lc,rfl,hlc,hlr⟩:=h5;have hl0:0<x.l.length:=by omega
 obtain⟨b0,o0,t0,hla,hb0,hlt0,hC0,ho0,hR0⟩:=hlr 0 hl0;obtain⟨b1,o1,t1,hla1,hb1',hlt1,hC1,ho1,hR1⟩:=hlr 1 hl;subst hla;injection hla1 with e1;injection e1 with e1 e2;subst e1;subst e2;have HR0:=Hd hR0;have HR1:=Hd hR1;obtain⟨x50,rfl,h50⟩:=RX_iff.1 hR0;obtain⟨x51,rfl,h51⟩:=RX_iff.1 hR1;simp only[Nat.zero_mul,Nat.add_zero,Nat.one_mul] at hC0 hC1;have hxa:=z2m (k:=0) hl0;have HX0:=Hd (hX.part (y1l hl0) hR0);have HF:=Hd (fun(w':World) (hw:Ext w w')=>hf x.l[1] (y1l hl) w' _ hw hR1);have u0:=h50.oneCell;have u1:=h51.oneCell;obtain⟨rk,hrk⟩:∃rk,rk=z1p s x.l[0]:=⟨_,rfl⟩;obtain⟨rp,hrp⟩:∃rp,rp=z1f m.d.sigs s x.l[1]:=⟨_,rfl⟩;have HD:=Hd (show z1f m.d.sigs s x=(do let n←rk;let _←z0o (1≤n∧n≤64) 83;let y←rp;z5i (.mk 7 0 0 0 0 0 0 (List.replicate n.toNat y.1),1+n*y.2)) by
  rw[z3j,hrk,hrp];unfold q0s;rw[if_neg (by omega),if_neg (by omega),if_neg (by omega),if_neg (by omega),if_pos hop,hxa,show(x.l.map (z1f m.d.sigs s)).getD 1 (.error 0)=z1f m.d.sigs s x.l[1] from by simp[List.getD_eq_getElem?_getD,List.getElem?_eq_getElem hl]])
 obtain⟨W1,hW1,hx1,hb1⟩:=z6v w (.int .i64 9) (.string x.name) (.int .i64 x.n) (.int .i64 x.w) (.int .u64 x.v) (.slice (some ⟨b0,o0,none⟩) x.l.length lc) 40;obtain⟨W2,hW2,hx2,hb2⟩:=q0y W1 (.int .i64 0) (.int .i64 0) (.int .u64 0) (.int .i64 0) (.int .i64 0) (.int .i64 0) (.int .i64 0) (.slice none 0 0) (.int .i64 0) 203;have hV1:=hW1.symm;have hgw:w.heap.size≤W1.heap.size:=hx1.size;have hlt12:W1.heap.size<W2.heap.size:=hb2.lt;obtain⟨c0,c1,c2,c3,c4,c5⟩:=(hb1.ext hx2).later6;obtain⟨e2,he2⟩:=y1h (W:=W2) (w:=W2) (y1g _);have hV2:=hW2.symm.trans he2;have X2:=Hd (hx1.trans hx2);have HB2:=Hd hb2;have KE:=Hd (fun(w':World) (hw:Ext w w')=>z4p W0 B x.l[0] _ sb mp ve s w' (HC.o.later hw) HX0.o (HS.o.ext hw) HG.o.env);rw[←hrk] at KE;rw[←hrp] at HF;generalize x.l[0]=x0 at*;generalize x.l[1]=x1 at*;obtain⟨d0,d1,d2,d3,d4,d5⟩:=(hC0.ext (hc.ext.trans (hx1.trans hx2))).later6;obtain⟨q0,q1,q2,q3,q4,q5⟩:=(hC1.ext (hc.ext.trans (hx1.trans hx2))).later6;have hk0:(0:Int)<(x.l.length:Int):=by omega
 have hk1:(1:Int)<(x.l.length:Int):=by omega
 clear he2 hW1 hW2 hx1 hx2 hb1 hb2 hX h hs hc hg hf hlr hR0 hR1 h50 h51 hlt0 hlt1 hb0 hb1' hC0 hC1 ho0 ho1 hxa hl0 hl hrk hrp;have hmf:=@hmf_ Tryz.prog;rw[hop];clear hop
 go_enter_defers func150,ntmps150
 go_wp2_with fail
 go_at_call 71;refine(KE.o _ (X2.o.trans (y1i _))).mono ?_;rintro e w3 (⟨n,u,hr,rfl,rfl,hx3⟩|⟨c,hr,rfl,hx3⟩);rotate_left
 ·have h8:=(HB2.o.ext ((y1i e2).trans hx3)).cell 8;have HN:=Hd (show RunsP (z1f m.d.sigs s x) (z5n w) (Ext w) (.panicked (z2c c)) w3 from .no (by rw[HD.o,hr];rfl) ((X2.o.trans (y1i _)).trans hx3));exact z3c (by simpa using h8) (by decide) HN.o
 obtain⟨e3,rfl⟩:=y1h ((y1i e2).trans hx3);have HR:=Hd hr;clear hr hx3;by_cases hn:1≤n∧n≤64
 rotate_left
 ·have K:=Hd (z2h 83 (by decide) e3.w);have h8:=(HB2.o.ext (y1i e3)).cell 8;have HN:=Hd (show RunsP (z1f m.d.sigs s x) (z5n w) (Ext w) (.panicked (z2c 83)) e3.w from .no (by rw[HD.o,HR.o];unfold z0o;simp only[bind,Except.bind];rw[if_neg hn]) (X2.o.trans (y1i _)));by_cases h1:1≤n
  ·have h2:¬n≤64:=fun b=>hn ⟨h1,b⟩
   clear hn;go_wp2_with fail
   go_at_call 35;rw[show decide (n≤64)=false from decide_eq_false (by omega)];refine K.o.mono ?_;rintro _ w4 ⟨rfl,rfl⟩;exact z3c (by simpa using h8) (by decide) HN.o
  ·clear hn;go_wp2_with fail
   go_at_call 35;refine K.o.mono ?_;rintro _ w4 ⟨rfl,rfl⟩;exact z3c (by simpa using h8) (by decide) HN.o
 obtain⟨k,rfl⟩:=Int.eq_ofNat_of_zero_le (show 0≤n by omega);have h1:=hn.1;have h2:=hn.2;have K:=Hd (z1q 83 e3.w);have HU:=Hd (show z1f m.d.sigs s x=(do let y←rp;z5i (.mk 7 0 0 0 0 0 0 (List.replicate k y.1),1+(k:Int)*y.2)) by rw[HD.o,HR.o];unfold z0o;simp only[bind,Except.bind];rw[if_pos hn];rfl);clear hn HD;go_wp2_with (go_at_call 35;refine K.o.mono ?_;rintro _ w4 ⟨rfl,rfl⟩)
 go_at_call 150;refine(HF.o _ (X2.o.trans (y1i _))).mono ?_;rintro e w4 (⟨y,u,hr,rfl,c,rfl,hre,hx4,hn0,hn1⟩|⟨c,hr,rfl,hx4⟩);rotate_left
 ·have h8:=(HB2.o.ext ((y1i e3).trans hx4)).cell 8;have HN:=Hd (show RunsP (z1f m.d.sigs s x) (z5n w) (Ext w) (.panicked (z2c c)) w4 from .no (by rw[HU.o,hr];rfl) ((X2.o.trans (y1i _)).trans hx4));exact z3c (by simpa using h8) (by decide) HN.o
 obtain⟨vy,rfl,hsy⟩:=RE9_iff.1 hre;obtain⟨ya,yc,rfl⟩:=hsy.form;obtain⟨y1,y2⟩:=y;have HRE:=Hd (show RE9 (fun b=>e3.w.heap.size≤b) w4 y1 [.int .i64 y1.op,.int .i64 y1.w,.int .u64 y1.v,.int .i64 y1.sig,.int .i64 y1.hi,.int .i64 y1.lo,.int .i64 y1.n,.slice ya y1.l.length yc] from hre);have HN2:=Hd (show 0≤y2∧y2≤65537 from⟨hn0,hn1⟩);have HQ:=Hd hr;obtain⟨W5,hW5,hx5,hb5⟩:=q0y w4 (.int .i64 y1.op) (.int .i64 y1.w) (.int .u64 y1.v) (.int .i64 y1.sig) (.int .i64 y1.hi) (.int .i64 y1.lo) (.int .i64 y1.n) (.slice ya y1.l.length yc) (.int .i64 y2) 203;obtain⟨p0,p1,p2,p3,p4,p5,p6,p7,p8⟩:=hb5.later9;obtain⟨e5,he5⟩:=y1h (W:=W5) (w:=W5) (y1g _);have hV5:=hW5.symm.trans he5;have X5:=Hd (show Ext W2 W5 from((y1i e3).trans hx4).trans hx5);have HX45:=Hd (hx4.trans hx5);have HRE5:=Hd (HRE.o.ext hx5);clear hre hsy hr hn0 hn1 hx4 hx5 hb5 hW5 he5;have hkn:((k:Int)).toNat=k:=rfl;have hm1:0≤(k:Int)*y2:=Int.mul_nonneg (by omega) HN2.o.1;have hm2:(k:Int)*y2≤4194368:=by
  have:=HN2.o
  calc (k:Int)*y2≤64*y2:=Int.mul_le_mul_of_nonneg_right h2 this.1
   _≤4194368:=by omega
 go_wp2_with fail
 refine z0m 12 (W:=W5) (Ext) (j6t W2 [.int .i64 y1.op,.int .i64 y1.w,.int .u64 y1.v,.int .i64 y1.sig,.int .i64 y1.hi,.int .i64 y1.lo,.int .i64 y1.n,.slice ya y1.l.length yc] k (1+(k:Int)*y2) [.pointer (some ⟨w4.heap.size,0,none⟩),.agg #[.int .i64 y1.op,.int .i64 y1.w,.int .u64 y1.v,.int .i64 y1.sig,.int .i64 y1.hi,.int .i64 y1.lo,.int .i64 y1.n,.slice ya y1.l.length yc],undef,.int .i64 k,undef,undef,.int .i64 k,.pointer (some ⟨w4.heap.size,8,none⟩),.int .i64 y2,.int .i64 ((k:Int)*y2),.int .i64 (1+(k:Int)*y2),undef]) (fun _ _=>False) (fun _=>true) (by kernel_rfl) (z0s) (by kernel_rfl) (by kernel_rfl) ?_ (y1i e5) (fun i v w w' h hx=>k2p h hx) ?_ (fun A ch w hd hp=>hp.elim) ?_
 ·exact⟨rfl,rfl,rfl,rfl,rfl,rfl,rfl,rfl,rfl,rfl,rfl,rfl,trivial⟩
 ·refine⟨?_,?_,?_,?_,?_,?_,?_,?_,?_,?_,?_,?_,trivial⟩;rotate_left 2
  ·intro A wa hxa hd h0;obtain⟨ea,rfl⟩:=y1h hxa;have q1:=z0d hd 1 94 (by kernel_rfl) rfl;simp[j6t] at q1;obtain⟨W7,hW7,hx7,hb7⟩:=q7r ea.w (.int .i64 y1.op) (.int .i64 y1.w) (.int .u64 y1.v) (.int .i64 y1.sig) (.int .i64 y1.hi) (.int .i64 y1.lo) (.int .i64 y1.n) (.slice ya y1.l.length yc) 60;have hV7:=hW7.symm;have HG7:=Hd (y1x hx7 hb7);clear hW7 hx7 hb7;clear hd h0;go_simp;first|exact⟨_,rfl,HG7.o.1,_,rfl,HG7.o.2⟩
  rotate_left 1
  ·intro A wa hxa hd h0;obtain⟨ea,rfl⟩:=y1h hxa;obtain⟨g2,q2,hg2⟩:=z0d hd 2 95 (by kernel_rfl) rfl;simp at q2;have HG2:=Hd hg2;clear hg2;have q3:=z0d hd 3 96 (by kernel_rfl) rfl;simp[j6t] at q3;clear hd h0;go_simp;refine(j4y k g2 0 1 [.int .i64 y1.op,.int .i64 y1.w,.int .u64 y1.v,.int .i64 y1.sig,.int .i64 y1.hi,.int .i64 y1.lo,.int .i64 y1.n,.slice ya y1.l.length yc] ea.w (by omega) (by omega) HG2.o.cells rfl (HRE5.o.one)).mono ?_;rintro _ w7 ⟨rfl,hrep⟩;have HRP:=Hd hrep;clear hrep;go_simp;first|exact⟨_,rfl,HRP.o.ext,_,rfl,y1k X5.o.size ea.ext.size,HRP.o.blk rfl⟩
  ·intro A wa hxa hd h0;obtain⟨ea,rfl⟩:=y1h hxa;obtain⟨g4,q4,hg4⟩:=z0d hd 4 97 (by kernel_rfl) rfl;simp at q4;have HG4:=Hd hg4;clear hg4;clear hd h0;go_simp;first|exact⟨_,rfl,y1g _,g4,rfl,HG4.o⟩|exact⟨y1g _,g4,rfl,HG4.o⟩
  rotate_left 3
  ·intro A wa hxa hd h0;obtain⟨ea,rfl⟩:=y1h hxa;have q6:=z0d hd 6 99 (by kernel_rfl) rfl;simp[j6t] at q6;have q8:=z0d hd 8 101 (by kernel_rfl) rfl;simp[j6t] at q8;clear hd h0;go_simp;simp(disch:=omega) only[IntWalk.i64_in];first|exact⟨_,rfl,y1g _,rfl⟩|exact⟨y1g _,rfl⟩|exact rfl|exact⟨_,rfl,rfl⟩
  ·intro A wa hxa hd h0;obtain⟨ea,rfl⟩:=y1h hxa;have q9:=z0d hd 9 102 (by kernel_rfl) rfl;simp[j6t] at q9;clear hd h0;go_simp;simp(disch:=omega) only[IntWalk.i64_in];first|exact⟨_,rfl,y1g _,rfl⟩|exact⟨y1g _,rfl⟩|exact rfl|exact⟨_,rfl,rfl⟩
  ·intro A wa hxa hd h0;obtain⟨ea,rfl⟩:=y1h hxa;obtain⟨g5,q5,hg5⟩:=z0d hd 5 98 (by kernel_rfl) rfl;simp at q5;have HG5:=Hd hg5;clear hg5;have q10:=z0d hd 10 103 (by kernel_rfl) rfl;simp[j6t] at q10;clear hd h0;go_simp;first|exact⟨_,rfl,y1g _,g5,rfl,HG5.o⟩|exact⟨y1g _,g5,rfl,HG5.o⟩
  all_goals
   intro A wa hxa hd h0;obtain⟨ea,rfl⟩:=y1h hxa;try (have q0:=z0d hd 0 93 (by decide) rfl;simp[j6t] at q0)
   try (have q7:=z0d hd 7 100 (by decide) rfl;simp[j6t] at q7)
   have r13:=z0c h0 13 (by kernel_rfl);simp at r13;have r12:=z0c h0 12 (by kernel_rfl);simp at r12;clear hd h0;go_simp;first|exact⟨_,rfl,y1g _,rfl⟩|exact⟨y1g _,rfl⟩|exact rfl|exact⟨_,rfl,rfl⟩|exact y1g _
 ·intro A wa hk;obtain⟨f,rfl,hxa,hdn,hrs⟩:=hk.fin (n:=133) rfl;obtain⟨ea,rfl⟩:=y1h hxa;have k6:=hrs 6 (by kernel_rfl);obtain⟨g,k104,hg1,hg2⟩:=hdn 11 104 rfl rfl;clear hdn hrs;simp at k6;simp only[List.drop_succ_cons,List.drop_zero];simp[List.range,List.range.loop,k6,k104];clear k6 k104;have hre:RE9 (fun b=>W2.heap.size≤b) ea.w (.mk 7 0 0 0 0 0 0 (List.replicate k y1)) [.int .i64 7,.int .i64 0,.int .u64 0,.int .i64 0,.int .i64 0,.int .i64 0,.int .i64 0,.slice (some ⟨g,0,none⟩) k k]:=RE9_iff.2 ⟨_,rfl,k6h hg2 ((HRE5.o.ext (y1i ea)).imp (fun b _ hb=>y1k (y1i e3).size hb)) hg1⟩;have hb3:=HB2.o.ext (X5.o.trans (y1i ea));have hx0:=X2.o.trans (X5.o.trans (y1i ea));obtain⟨g0,g1,g2,g3,g4,g5,g6,g7,g8⟩:=hb3.get9;obtain⟨f0,f1,f2,f3,f4,f5,f6,f7,f8⟩:=hb3.free9;obtain⟨W9,hW9⟩:∃W9,W9=((((((((ea.w.setCell ⟨W1.heap.size,0,none⟩ (.int .i64 7)).setCell ⟨W1.heap.size,1,none⟩ (.int .i64 0)).setCell ⟨W1.heap.size,2,none⟩ (.int .u64 0)).setCell ⟨W1.heap.size,3,none⟩ (.int .i64 0)).setCell ⟨W1.heap.size,4,none⟩ (.int .i64 0)).setCell ⟨W1.heap.size,5,none⟩ (.int .i64 0)).setCell ⟨W1.heap.size,6,none⟩ (.int .i64 0)).setCell ⟨W1.heap.size,7,none⟩ (.slice (some ⟨g,0,none⟩) k k)).setCell ⟨W1.heap.size,8,none⟩ (.int .i64 (1+(k:Int)*y2)):=⟨_,rfl⟩;have hV9:=hW9.symm;have HB9:=Hd (show Blk W9 W1.heap.size 203 [.int .i64 7,.int .i64 0,.int .u64 0,.int .i64 0,.int .i64 0,.int .i64 0,.int .i64 0,.slice (some ⟨g,0,none⟩) k k,.int .i64 (1+(k:Int)*y2)] by rw[hW9];exact hb3.store9 _ _ _ _ _ _ _ _ _);have HX9:=Hd (show Ext w W9 by rw[hW9];exact((((((((hx0.setCell hgw _).setCell hgw _).setCell hgw _).setCell hgw _).setCell hgw _).setCell hgw _).setCell hgw _).setCell hgw _).setCell hgw _);have HY9:=Hd (show RE9 (fun b=>w.heap.size≤b) W9 (.mk 7 0 0 0 0 0 0 (List.replicate k y1)) [.int .i64 7,.int .i64 0,.int .u64 0,.int .i64 0,.int .i64 0,.int .i64 0,.int .i64 0,.slice (some ⟨g,0,none⟩) k k] by
   rw[hW9];refine RE9.turn (X:=fun b=>b=W1.heap.size) ?_ (fun b hb hy=>⟨fun e=>?_,y1k X2.o.size hy⟩) _ _ hre
   ·exact((((((((y1y (X:=fun b=>b=W1.heap.size) (y1u _ ea.w) (p:=⟨W1.heap.size,0,none⟩) rfl _).setCell (p:=⟨W1.heap.size,1,none⟩) rfl _).setCell (p:=⟨W1.heap.size,2,none⟩) rfl _).setCell (p:=⟨W1.heap.size,3,none⟩) rfl _).setCell (p:=⟨W1.heap.size,4,none⟩) rfl _).setCell (p:=⟨W1.heap.size,5,none⟩) rfl _).setCell (p:=⟨W1.heap.size,6,none⟩) rfl _).setCell (p:=⟨W1.heap.size,7,none⟩) rfl _).setCell (p:=⟨W1.heap.size,8,none⟩) rfl _
   ·exact absurd (hb.one (e▸hb3.tag)) (by decide))
  clear hb3 hx0 hW9 hre hg2;go_wp2_with fail
  refine z5x rfl HB9.o (fun hn=>?_) (fun hn=>?_)
  ·exact .ok (by rw[HU.o,HQ.o];exact q3d hn) ⟨_,rfl,HY9.o,HX9.o,(show(0:Int)≤1+(k:Int)*y2 by omega),(show 1+(k:Int)*y2≤65537 by have hn9:1+(k:Int)*y2≤65536:=hn;omega)⟩
  ·exact .no (by rw[HU.o,HQ.o];exact q0g hn) HX9.o
theorem k0m(W0:World)(B N0 mb sb mp:Nat)(vf vs vp vc ve:Value)(m:Mk)(s:Sc)(hg:Good m.d.sigs s):∀x:X,MayX x→∀(cs:List Value) (w:World),Cx W0 B w→XOk W0 B x cs→MkI w N0 mb vf vs vp vc m→ScI w sb mp ve s→
 z9b Tryz.prog 150 #[.pointer (some ⟨mb,0,none⟩),.pointer (some ⟨sb,0,none⟩),.agg cs.toArray] w (z1f m.d.sigs s x) (z5n w) (Ext w):=by
 intro x;induction x using X.ind with
 |h x ih=>
  intro hm cs w hc hX h hs;obtain⟨⟨hp,-,-,-⟩,hml⟩:=MayX_iff.1 hm;have hln:x.l.length≤1000000000:=by
   have h1:=z0b z0l x.l z1n;have h2:=hX.size;rw[z3u] at h2;omega
  have hf:∀y,y∈x.l→∀(w':World) (cs:List Value),Ext w w'→RX W0 B y cs→z9b Tryz.prog 150 #[.pointer (some ⟨mb,0,none⟩),.pointer (some ⟨sb,0,none⟩),.agg cs.toArray] w' (z1f m.d.sigs s y) (z5n w') (Ext w'):=
   fun y hy w' cs' hw hr=>ih y hy (hml y hy) cs' w' (hc.later hw) (hX.part hy hr) (h.ext hw) (hs.ext hw)
  unfold z4u at hp;by_cases h1:x.op=1
  ·exact k0t W0 B _ _ m.d.sigs s x cs w hX.rx h1
  by_cases h2:x.op=2
  ·exact k0s W0 B N0 mb sb mp vf vs vp vc ve m s x cs w hc hX h hs hg h2
  by_cases h3:x.op=3
  ·exact k0r W0 B N0 mb sb mp vf vs vp vc ve m s x cs w hc hX h hs hg h3 (by omega)
  by_cases h4:x.op=4
  ·exact k0q W0 B N0 mb sb mp vf vs vp vc ve m s x cs w hc hX h hs h4 hln hf
  by_cases h9:x.op=9
  ·exact k0p W0 B N0 mb sb mp vf vs vp vc ve m s x cs w hc hX h hs hg h9 (by omega) hf
  by_cases h10:x.op=10
  ·exact j6c W0 B N0 mb sb mp vf vs vp vc ve m s x cs w hc hX h hs hg h10 (by omega) hln hf
  exact k0n W0 B N0 mb sb mp vf vs vp vc ve m s x cs w hc hX h hs h1 h2 h3 h4 h9 h10 hln hf
def CntM(m m':Mk):Prop:=∃n,m'={m with count:=n}∧m.count≤n∧n≤65536
theorem CntM.refl{m:Mk}(h:m.count≤65536):CntM m m:=⟨m.count,rfl,Int.le_refl _,h⟩
theorem CntM.trans{a b c:Mk}(h:CntM a b)(k:CntM b c):CntM a c:=by
 obtain⟨n,rfl,h1,h2⟩:=h;obtain⟨n',rfl,h3,h4⟩:=k;exact⟨n',rfl,Int.le_trans h1 h3,h4⟩
theorem CntM.d{m m':Mk}(h:CntM m m'):m'.d=m.d:=by obtain⟨n,rfl,-⟩:=h;rfl
theorem z6s{n:Int}{m m':Mk}(h:z7a n m=.ok m')(hn:0≤n):CntM m m':=by
 unfold z7a at h;split at h
 ·injection h with h;exact⟨m.count+n,h.symm,by omega,by assumption⟩
 ·cases h
structure StC(W0:World)(B N0 mb sb mp:Nat)(vf vs vp vc ve:Value)(m:Mk)(s:Sc)(w:World):Prop where
 cx:Cx W0 B w
 mk_:MkI w N0 mb vf vs vp vc m
 sc:ScI w sb mp ve s
 gd:Good m.d.sigs s
 c0:0≤m.count
 c1:m.count≤65536
 lo:W0.heap.size≤mb
section
variable {W0 w w' : World} {B N0 mb sb mp : Nat} {vf vs vp vc ve : Value} {m m' : Mk} {s : Sc}
theorem ScI.frS(h:ScI w sb mp ve s)(hf:FrS mb w w')(hm:Tag w mb 99):ScI w' sb mp ve s:=
 ⟨hf.blk h.blk (fun e=>absurd (h.blk.tag.one (show Tag w sb _ from(show sb=mb from e)▸hm)) (by decide)),h.env.keep (.inr (.inr rfl)) (FrS.kp hf hm) (fun _ _ _ h=>h),h.map.of_eq (hf.block mp h.map.lt (fun e=>h.map.noTag (show Tag w mp _ from(show mp=mb from e)▸hm)))⟩
theorem StC.frS(h:StC W0 B N0 mb sb mp vf vs vp vc ve m s w)(hf:FrS mb w w')(hk:MkI w' N0 mb vf vs vp vc m')(hc:CntM m m'):StC W0 B N0 mb sb mp vf vs vp vc ve m' s w':=by
 have hd:=hc.d;obtain⟨n,rfl,h1,h2⟩:=hc;have h0:=h.c0;exact⟨⟨h.cx.tabs,h.cx.hB,hf.ext h.cx.ext (fun k hk=>(show k=mb from hk)▸h.lo)⟩,hk,h.sc.frS hf h.mk_.blk.tag,h.gd,Int.le_trans h0 h1,h2,h.lo⟩
theorem StC.ext(h:StC W0 B N0 mb sb mp vf vs vp vc ve m s w)(hx:Ext w w'):StC W0 B N0 mb sb mp vf vs vp vc ve m s w':=
 ⟨h.cx.later hx,h.mk_.ext hx,h.sc.ext hx,h.gd,h.c0,h.c1,h.lo⟩
end
def WhR(N0 mb:Nat)(vf vs vp vc:Value)(m:Mk)(w:World)(r:DE×Mk)(v:Value)(w':World):Prop:=
 SlY (fun b=>w.heap.size≤b) 60 (RE9 (fun b=>w.heap.size≤b) w') w' 8 [r.1] v∧MkI w' N0 mb vf vs vp vc r.2∧FrS mb w w'∧CntM m r.2
theorem z7z(W0:World)(B N0 mb sb mp:Nat)(vf vs vp vc ve:Value)(m:Mk)(s:Sc)(x:X)(cs:List Value)(w:World)(h:StC W0 B N0 mb sb mp vf vs vp vc ve m s w)(hX:XOk W0 B x cs)(hm:MayX x):
 z9b Tryz.prog 110 #[.pointer (some ⟨mb,0,none⟩),.pointer (some ⟨sb,0,none⟩),.agg cs.toArray] w (z0q s x m) (WhR N0 mb vf vs vp vc m w) (FrS mb w):=by
 have H:=Hd h;have hmw:=h.mk_.blk.lt;have hc0:=h.c0;have hc1:=h.c1;obtain⟨x5,rfl,h5⟩:=RX_iff.1 hX.rx;have o5:=h5.oneCell;obtain⟨W1,e1,hV1,hx1,hs1,c0,c1,c2,c3,c4,c5⟩:=z6b w (.int .i64 x.op) (.string x.name) (.int .i64 x.n) (.int .i64 x.w) (.int .u64 x.v) x5 40;have X1:=Hd hx1;have KE:=Hd (fun(w':World) (hw:Ext w w')=>k0m W0 B N0 mb sb mp vf vs vp vc ve m s h.gd x hm _ w' (h.cx.later hw) hX (h.mk_.ext hw) (h.sc.ext hw));have HD:=Hd (show z0q s x m=(do let y←z1f m.d.sigs s x;let m'←z7a y.2 m;return(y.1,m')) from rfl);clear h hX h5 hx1 hs1;go_enter func110,ntmps110;go_wp2_with fail
 go_at_call 150;refine(KE.o _ (X1.o.trans e1.ext)).mono ?_;rintro e w4 (⟨y,u,hr,rfl,c,rfl,hre,hx4,hn0,hn1⟩|⟨c,hr,rfl,hx4⟩);rotate_left
 ·exact⟨rfl,.no (by rw[HD.o,hr];rfl) (((X1.o.trans e1.ext).trans hx4).chg)⟩
 obtain⟨vy,rfl,hsy⟩:=RE9_iff.1 hre;obtain⟨ya,yc,rfl⟩:=hsy.form;obtain⟨y1,y2⟩:=y;obtain⟨W5,hW5,hx5,hb5⟩:=q0y w4 (.int .i64 y1.op) (.int .i64 y1.w) (.int .u64 y1.v) (.int .i64 y1.sig) (.int .i64 y1.hi) (.int .i64 y1.lo) (.int .i64 y1.n) (.slice ya y1.l.length yc) (.int .i64 y2) 203;obtain⟨p0,p1,p2,p3,p4,p5,p6,p7,p8⟩:=hb5.get9;have hV5:=hW5.symm;have X5:=Hd (((X1.o.trans e1.ext).trans hx4).trans hx5);have HB5:=Hd hb5;have hw4:w.heap.size≤w4.heap.size:=((X1.o.trans e1.ext).trans hx4).size;have HRE:=Hd (show RE9 (fun b=>w.heap.size≤b) W5 y1 [.int .i64 y1.op,.int .i64 y1.w,.int .u64 y1.v,.int .i64 y1.sig,.int .i64 y1.hi,.int .i64 y1.lo,.int .i64 y1.n,.slice ya y1.l.length yc] from(hre.imp (fun b _ hb=>y1k (X1.o.trans e1.ext).size hb)).ext hx5);have HR:=Hd hr;have KC:=Hd (z1k N0 mb vf vs vp vc m y2 W5 (H.o.mk_.ext X5.o) hc0 hc1 hn0 (by omega));have hn0':0≤y2:=hn0;clear hW5 hx5 hb5 hre hsy hr hx4 hn0 hn1;go_wp2_with fail
 go_at_call 75;refine KC.o.mono ?_;rintro e w6 (⟨m',u,hr,rfl,rfl,hmk,hfr⟩|⟨c,hr,rfl,hfr⟩);rotate_left
 ·exact⟨rfl,.no (by rw[HD.o,HR.o];simp only[bind,Except.bind];rw[hr]) (X5.o.chg.trans hfr)⟩
 have hne:w4.heap.size≠mb:=by omega
 have hb6:=hfr.blk HB5.o hne;obtain⟨q0,q1,q2,q3,q4,q5,q6,q7,q8⟩:=hb6.get9;obtain⟨W7,hW7,hx7,hb7⟩:=q7r w6 (.int .i64 y1.op) (.int .i64 y1.w) (.int .u64 y1.v) (.int .i64 y1.sig) (.int .i64 y1.hi) (.int .i64 y1.lo) (.int .i64 y1.n) (.slice ya y1.l.length yc) 60;have hV7:=hW7.symm;have HRS:=Hd (show z0q s x m=.ok (y1,m') by rw[HD.o,HR.o];simp only[bind,Except.bind];rw[hr];rfl);have HF:=Hd (show FrS mb w W7 from(X5.o.chg.trans hfr).trans hx7.chg);have HY:=Hd (show SlY (fun b=>w.heap.size≤b) 60 (RE9 (fun b=>w.heap.size≤b) W7) W7 8 [y1] (.slice (some ⟨w6.heap.size,0,none⟩) 1 1) from by
  have h1:RE9 (fun b=>w.heap.size≤b) W7 y1 _:=(RE9.turn hfr (fun b _ hb=>⟨fun e=>by have:b=mb:=e;omega,hb⟩) y1 _ HRE.o).ext hx7;refine⟨_,1,rfl,y1j _,fun k hk=>?_⟩;obtain rfl:k=0:=by simp at hk;omega
  exact⟨w6.heap.size,0,_,rfl,y1k X5.o.size hfr.size,hb7.tag,rfl,hb7.cells,fun v hv=>h1.one v hv,h1⟩)
 have HM:=Hd (hmk.ext hx7);have HC:=Hd (z6s hr hn0');clear hW7 hx7 hb7 hb6 hfr hmk hr;go_wp2_with fail
 go_ret;exact .ok HRS.o ⟨HY.o,HM.o,HF.o,HC.o⟩
theorem Chg.trans_new{X Y:Nat→Prop}{a b c:World}(h:Chg X a b)(k:Chg Y b c)(hY:∀i,Y i→a.heap.size≤i):Chg X a c:=
 ⟨k.os.trans h.os,k.tape.trans h.tape,k.output.trans h.output,y1k h.size k.size,fun i hi hx=>(k.block i (y1m hi h.size) (fun hy=>absurd (hY i hy) (by omega))).trans (h.block i hi hx)⟩
theorem MkI.back{X:Nat→Prop}{w w1 w2:World}{N0 mb:Nat}{vf vs vp vc:Value}{m m':Mk}(h:MkI w N0 mb vf vs vp vc m)(hf:FrS mb w w2)(hk:MkI w1 N0 mb vf vs vp vc m')(hc:Chg X w1 w2)(hX:¬X mb)(hcm:CntM m m'):MkI w2 N0 mb vf vs vp vc m':=by
 obtain⟨n,rfl,-⟩:=hcm;exact h.count hf n (hc.blk hk.blk hX)
def StR(N0 mb:Nat)(vf vs vp vc:Value)(m:Mk)(w:World)(r:DT×Mk)(v:Value)(w':World):Prop:=
 ∃c,v=.agg c.toArray∧RT9 (fun b=>w.heap.size≤b) w' r.1 c∧MkI w' N0 mb vf vs vp vc r.2∧FrS mb w w'∧CntM m r.2
theorem q6h(W0:World)(B N0 mb sb mp:Nat)(vf vs vp vc ve:Value)(m:Mk)(s:Sc)(clk:Bool)(t x:X)(ct cx:List Value)(w:World)(h:StC W0 B N0 mb sb mp vf vs vp vc ve m s w)(hT:XOk W0 B t ct)(hX:XOk W0 B x cx)(hl:t.op=3∨t.op=4→0<t.l.length)(hm:MayX x):
 z9b Tryz.prog 108 #[.pointer (some ⟨mb,0,none⟩),.pointer (some ⟨sb,0,none⟩),.agg ct.toArray,.agg cx.toArray,.bool clk] w (z2p s clk t x m) (StR N0 mb vf vs vp vc m w) (FrS mb w):=by
 have H:=Hd h;have hmw:=h.mk_.blk.lt;have HT:=Hd hT;have HX:=Hd hX;obtain⟨t5,rfl,h5⟩:=RX_iff.1 hT.rx;obtain⟨x5,rfl,h6⟩:=RX_iff.1 hX.rx;have o5:=h5.oneCell;have o6:=h6.oneCell;obtain⟨W1,hW1,hx1,hb1⟩:=z6v w (.int .i64 t.op) (.string t.name) (.int .i64 t.n) (.int .i64 t.w) (.int .u64 t.v) t5 40;obtain⟨W2,hW2,hx2,hb2⟩:=z6v W1 (.int .i64 x.op) (.string x.name) (.int .i64 x.n) (.int .i64 x.w) (.int .u64 x.v) x5 40;obtain⟨W3,hW3,hx3,hb3⟩:=z6v W2 (.int .i64 0) (.int .i64 0) (.int .i64 0) (.int .i64 0) (.slice none 0 0) (.slice none 0 0) 73;have hV1:=hW1.symm;have hV2:=hW2.symm;have hV3:=hW3.symm;have X3:=Hd ((hx1.trans hx2).trans hx3);have HB1:=Hd (hb1.ext (hx2.trans hx3));have HB2:=Hd (hb2.ext hx3);have HB3:=Hd hb3;have s1:w.heap.size<W1.heap.size:=hb1.lt;have s2:W1.heap.size<W2.heap.size:=hb2.lt;have s3:W2.heap.size<W3.heap.size:=hb3.lt;have KC:=Hd (z1k N0 mb vf vs vp vc m 1 W3 (h.mk_.ext X3.o) h.c0 h.c1 (by decide) (by decide));clear hW1 hW2 hW3 hx1 hx2 hx3 hb1 hb2 hb3 h hT hX h5 h6;have HD:=Hd (show z2p s clk t x m=(do let m1←z7a 1 m;let r←z2t m1.d.sigs s clk t;let y←z0q s x m1;return(j4n r y.1,y.2)) from rfl);go_enter func108,ntmps108;go_wp2_with fail
 go_at_call 75;refine KC.o.mono ?_;rintro e w4 (⟨m1,u,hr,rfl,rfl,hmk,hfr⟩|⟨c,hr,rfl,hfr⟩);rotate_left
 ·exact⟨rfl,.no (by rw[HD.o,hr];rfl) (X3.o.chg.trans hfr)⟩
 have hC1:=z6s hr (by decide);have H4:=Hd ((H.o.ext X3.o).frS hfr hmk hC1);have F4:=Hd (X3.o.chg.trans hfr);have HC1:=Hd hC1;have HR1:=Hd hr;have s4:W3.heap.size≤w4.heap.size:=hfr.size;have b1:=hfr.blk HB1.o (show¬w.heap.size=mb by omega);have b2:=hfr.blk HB2.o (show¬W1.heap.size=mb by omega);have b3:=hfr.blk HB3.o (show¬W2.heap.size=mb by omega);obtain⟨c0,c1,c2,c3,c4,c5⟩:=b1.get6;have B2:=Hd b2;have B3:=Hd b3;have KT:=Hd (q3r W0 B N0 mb sb mp vf vs vp vc ve m1 s clk t _ w4 H4.o.cx HT.o H4.o.mk_ H4.o.sc H4.o.gd hl);clear hfr hmk hr b1 b2 b3 hC1;go_wp2_with fail
 go_at_call 148;refine KT.o.mono ?_;rintro e w5 (⟨r,u,hr,rfl,rfl,hx5⟩|⟨c,hr,rfl,hx5⟩);rotate_left
 ·exact⟨rfl,.no (by rw[HD.o,HR1.o];simp only[bind,Except.bind];rw[hr]) (F4.o.trans hx5.chg)⟩
 obtain⟨r1,r2,r3⟩:=r;have HR2:=Hd hr;obtain⟨Wz,hWz,hxz,hbz⟩:=z6v w5 (.int .i64 0) (.int .i64 0) (.int .i64 0) (.int .i64 0) (.slice none 0 0) (.slice none 0 0) 73;have hVz:=hWz.symm;obtain⟨k0,k1,k2,k3,k4,k5⟩:=hbz.get6;obtain⟨l0,l1,l2,l3,l4,l5⟩:=hbz.free6;obtain⟨W6,hW6⟩:∃W6,W6=(((((Wz.setCell ⟨w5.heap.size,0,none⟩ (.int .i64 1)).setCell ⟨w5.heap.size,1,none⟩ (.int .i64 r1)).setCell ⟨w5.heap.size,2,none⟩ (.int .i64 r2)).setCell ⟨w5.heap.size,3,none⟩ (.int .i64 r3)).setCell ⟨w5.heap.size,4,none⟩ (.slice none 0 0)).setCell ⟨w5.heap.size,5,none⟩ (.slice none 0 0):=⟨_,rfl⟩;have hV6:=hW6.symm;have hb6:Blk W6 w5.heap.size 73 [.int .i64 1,.int .i64 r1,.int .i64 r2,.int .i64 r3,.slice none 0 0,.slice none 0 0]:=by rw[hW6];exact hbz.store6 _ _ _ _ _ _
 have hx6:Ext w5 W6:=by rw[hW6];exact(((((hxz.setCell (y1j _) _).setCell (y1j _) _).setCell (y1j _) _).setCell (y1j _) _).setCell (y1j _) _).setCell (y1j _) _
 obtain⟨d0,d1,d2,d3,d4,d5⟩:=(B2.o.ext (hx5.trans hx6)).get6;have HB6:=Hd hb6;have B36:=Hd (B3.o.ext (hx5.trans hx6));have s6:w4.heap.size≤w5.heap.size:=hx5.size;have s7:w5.heap.size<W6.heap.size:=hb6.lt;have H6:=Hd (H4.o.ext (hx5.trans hx6));have F6:=Hd (F4.o.trans (hx5.trans hx6).chg);have KW:=Hd (z7z W0 B N0 mb sb mp vf vs vp vc ve m1 s x _ W6 H6.o HX.o hm);clear hWz hxz hbz hW6 hx5 hx6 hb6 hr c0 c1 c2 c3 c4 c5;go_wp2_with fail
 go_at_call 110;refine KW.o.mono ?_;rintro e w7 (⟨y,u,hr,rfl,hsl,hmk,hfr,hcm⟩|⟨c,hr,rfl,hfr⟩);rotate_left
 ·exact⟨rfl,.no (by rw[HD.o,HR1.o];simp only[bind,Except.bind];rw[HR2.o];simp only;rw[hr]) (F6.o.trans hfr)⟩
 obtain⟨ea,ec,hv⟩:=hsl.form;obtain rfl:u=.slice ea 1 ec:=hv;have b6:=hfr.blk HB6.o (show¬w5.heap.size=mb by omega);have b3:=hfr.blk B36.o (show¬W2.heap.size=mb by omega);have s8:W6.heap.size≤w7.heap.size:=hfr.size;have y4:=b6.cell 4;have z4:=b6.frozen 4;simp only[List.getElem?_cons_succ,List.getElem?_cons_zero] at y4;obtain⟨W8,hW8⟩:∃W8,W8=w7.setCell ⟨w5.heap.size,4,none⟩ (.slice ea 1 ec):=⟨_,rfl⟩;have hV8:=hW8.symm;have b8:Blk W8 w5.heap.size 73 [.int .i64 1,.int .i64 r1,.int .i64 r2,.int .i64 r3,.slice ea 1 ec,.slice none 0 0]:=by rw[hW8];simpa using b6.set_ 4 (.slice ea 1 ec)
 have hc8:Chg (fun b=>b=w5.heap.size) w7 W8:=by rw[hW8];exact y1y (X:=fun b=>b=w5.heap.size) (y1u _ w7) (p:=⟨w5.heap.size,4,none⟩) rfl _
 have b38:=hc8.blk b3 (show¬W2.heap.size=w5.heap.size by omega);obtain⟨q0,q1,q2,q3,q4,q5⟩:=b8.get6;obtain⟨f0,f1,f2,f3,f4,f5⟩:=b38.free6;obtain⟨g0,g1,g2,g3,g4,g5⟩:=b38.get6;obtain⟨W9,hW9⟩:∃W9,W9=(((((W8.setCell ⟨W2.heap.size,0,none⟩ (.int .i64 1)).setCell ⟨W2.heap.size,1,none⟩ (.int .i64 r1)).setCell ⟨W2.heap.size,2,none⟩ (.int .i64 r2)).setCell ⟨W2.heap.size,3,none⟩ (.int .i64 r3)).setCell ⟨W2.heap.size,4,none⟩ (.slice ea 1 ec)).setCell ⟨W2.heap.size,5,none⟩ (.slice none 0 0):=⟨_,rfl⟩;have hV9:=hW9.symm;have b9:Blk W9 W2.heap.size 73 [.int .i64 1,.int .i64 r1,.int .i64 r2,.int .i64 r3,.slice ea 1 ec,.slice none 0 0]:=by rw[hW9];exact b38.store6 _ _ _ _ _ _
 have hc9:Chg (fun b=>b=W2.heap.size) W8 W9:=by
  rw[hW9];exact(((((y1y (X:=fun b=>b=W2.heap.size) (y1u _ W8) (p:=⟨W2.heap.size,0,none⟩) rfl _).setCell (p:=⟨W2.heap.size,1,none⟩) rfl _).setCell (p:=⟨W2.heap.size,2,none⟩) rfl _).setCell (p:=⟨W2.heap.size,3,none⟩) rfl _).setCell (p:=⟨W2.heap.size,4,none⟩) rfl _).setCell (p:=⟨W2.heap.size,5,none⟩) rfl _
 have hc79:Chg (fun b=>b=w5.heap.size∨b=W2.heap.size) w7 W9:=(hc8.mono (fun _ _ h=>.inl h)).trans (hc9.mono (fun _ _ h=>.inr h));have hf9:FrS mb w W9:=(F6.o.trans hfr).trans_new hc79 (fun b hb=>by rcases hb with rfl|rfl<;>omega);have hcm9:=HC1.o.trans hcm;have HM9:=Hd (H.o.mk_.back hf9 hmk hc79 (fun hb=>by rcases hb with rfl|rfl<;>omega) hcm9);have HS9:=Hd (show SlE9 (fun b=>w.heap.size≤b) W9 [y.1] (.slice ea 1 ec) from SlE9.turn hsl hc79 (fun b hb hy=>⟨fun e=>by rcases e with rfl|rfl<;>omega,by omega⟩));have HF9:=Hd hf9;have HR9:=Hd (show z2p s clk t x m=.ok (j4n (r1,r2,r3) y.1,y.2) by rw[HD.o,HR1.o];simp only[bind,Except.bind];rw[HR2.o];simp only;rw[hr];rfl);have HC9:=Hd hcm9;obtain⟨j0,j1,j2,j3,j4,j5⟩:=b9.get6;clear hsl hmk hfr hcm hr b6 b3 hW8 b8 hc8 b38 hW9 b9 hc9 hc79 hf9 hcm9 d0 d1 d2 d3 d4 d5;go_wp2_with fail
 refine bodyPost_ret (v:=.agg #[.int .i64 1,.int .i64 r1,.int .i64 r2,.int .i64 r3,.slice ea 1 ec,.slice none 0 0]) ?_ rfl (.ok HR9.o ⟨[.int .i64 1,.int .i64 r1,.int .i64 r2,.int .i64 r3,.slice ea 1 ec,.slice none 0 0],rfl,RT9_iff.2 ⟨_,_,rfl,HS9.o,SlY.nil⟩,HM9.o,HF9.o,HC9.o⟩);simp[results,results108,go_sem,j0,j1,j2,j3,j4,j5]
theorem j3s:(Tryz.prog.info? 73).map (fun i=>(i.zero,i.size,i.bytes))=some (some (.agg #[.int .i64 0,.int .i64 0,.int .i64 0,.int .i64 0,.slice none 0 0,.slice none 0 0]),6,80):=by kernel_rfl
def SlK(W0:World)(B mb:Nat)(w:World)(l:List S)(v:Value):Prop:=
 ∃a cap,v=.slice a l.length cap∧l.length≤cap∧∀k,(h:k<l.length)→∃b o cs,a=some ⟨b,o,none⟩∧b<w.heap.size∧b≠mb∧cs.length=4∧Cells w b (o+k*4) cs∧(∀u,u∈cs→u.oneCell'=true)∧RS W0 B l[k] cs
theorem SlK.frS{W0 w w':World}{B mb:Nat}{l:List S}{v:Value}(h:SlK W0 B mb w l v)(hf:FrS mb w w'):SlK W0 B mb w' l v:=by
 obtain⟨a,cap,hv,hc,hr⟩:=h;refine⟨a,cap,hv,hc,fun k hk=>?_⟩;obtain⟨b,o,cs,ha,hb,hne,hl,hC,h1,hR⟩:=hr k hk;exact⟨b,o,cs,ha,y1m hb hf.size,hne,hl,fun j u hu=>(y2b (a:=⟨b,o+k*4+j,none⟩) (hf.block b hb hne)).trans (hC j u hu),h1,hR⟩
theorem SlK.of{W0 w:World}{B mb:Nat}{l:List S}{v:Value}(h:Sl (RS W0 B) W0 B 4 l v)(hx:Ext W0 w)(hB:B≤W0.heap.size)(hm:W0.heap.size≤mb):SlK W0 B mb w l v:=by
 obtain⟨a,cap,hv,hc,hr⟩:=h;refine⟨a,cap,hv,hc,fun k hk=>?_⟩;obtain⟨b,o,cs,ha,hb,hl,hC,h1,hR⟩:=hr k hk;exact⟨b,o,cs,ha,by have:=hx.size;omega,by omega,hl,hC.ext hx,h1,hR⟩
theorem SlK.oneCell{W0 w:World}{B mb:Nat}{l:List S}{v:Value}(h:SlK W0 B mb w l v):v.oneCell'=true:=by obtain⟨a,cap,rfl,-⟩:=h;rfl
def RSK(W0:World)(B mb:Nat)(w:World)(x:S)(cs:List Value):Prop:=
 ∃v2 v3,cs=[.int .i64 x.op,.string x.name,v2,v3]∧Sl (RX W0 B) W0 B 6 x.x v2∧SlK W0 B mb w x.l v3
theorem RSK.of{W0 w:World}{B mb:Nat}{x:S}{cs:List Value}(h:RS W0 B x cs)(hx:Ext W0 w)(hB:B≤W0.heap.size)(hm:W0.heap.size≤mb):RSK W0 B mb w x cs:=by
 obtain⟨v2,v3,h1,h2,h3⟩:=RS_iff.1 h;exact⟨v2,v3,h1,h2,SlK.of h3 hx hB hm⟩
def z5m(W0:World)(B N0 mb:Nat)(vf vs vp vc:Value)(clk:Bool)(f:FuncId)(D:S→Sc→Mk→Rs (DT×Mk))(x:S):Prop:=
 ∀(sb mp:Nat) (ve:Value) (m:Mk) (s:Sc) (w:World) (cs:List Value),StC W0 B N0 mb sb mp vf vs vp vc ve m s w→s.env.length+z0p x≤1000000→RSK W0 B mb w x cs→
  z9b Tryz.prog f #[.pointer (some ⟨mb,0,none⟩),.pointer (some ⟨sb,0,none⟩),.agg cs.toArray,.bool clk] w (D x s m) (StR N0 mb vf vs vp vc m w) (FrS mb w)
def StsR(N0 mb:Nat)(vf vs vp vc:Value)(m:Mk)(w:World)(r:List DT×Mk)(v:Value)(w':World):Prop:=
 SlT9 (fun b=>w.heap.size≤b) w' r.1 v∧MkI w' N0 mb vf vs vp vc r.2∧FrS mb w w'∧CntM m r.2
def q2k{α:Type}(acc:List α):List (Mk→Rs (α×Mk))→Mk→Rs (List α×Mk)
 |[],m=>.ok (acc,m)
 |f::fs,m=>do
  let y←f m
  q2k (acc++[y.1]) fs y.2
theorem k6l{α:Type}(fs:List (Mk→Rs (α×Mk))):∀acc m,q2k acc fs m=(do let z←q0x fs m;return(acc++z.1,z.2)):=by
 induction fs with
 |nil=>intro acc m;simp[q2k,q0x,bind,Except.bind,pure,Except.pure]
 |cons f fs ih=>
  intro acc m;simp only[q2k,q0x,bind,Except.bind,pure,Except.pure];cases f m with
  |error e=>rfl
  |ok y=>
   simp only[];rw[ih];cases q0x fs y.2 with
   |error e=>rfl
   |ok z=>simp[bind,Except.bind,pure,Except.pure]
theorem q3c{α:Type}(fs:List (Mk→Rs (α×Mk)))(m:Mk):q2k [] fs m=q0x fs m:=by
 rw[k6l];cases q0x fs m with
 |error e=>rfl
 |ok z=>rfl
theorem z8c(W0:World)(B N0 mb sb mp:Nat)(vf vs vp vc ve:Value)(m:Mk)(s:Sc)(clk:Bool)(l:List S)(vl:Value)(w:World)(h:StC W0 B N0 mb sb mp vf vs vp vc ve m s w)(hK:SlK W0 B mb w l vl)
 (hf:∀x,x∈l→z5m W0 B N0 mb vf vs vp vc clk 149 (z1t clk) x) (hln:s.env.length+z0e z0p l≤1000000):
 z9b Tryz.prog 109 #[.pointer (some ⟨mb,0,none⟩),.pointer (some ⟨sb,0,none⟩),vl,.bool clk] w (z2b clk s l m) (StsR N0 mb vf vs vp vc m w) (FrS mb w):=by
 have H:=Hd h;have HF:=Hd hf;have HK:=Hd hK;have hmw:=h.mk_.blk.lt;have hc1:=h.c1;have hlen:l.length≤1000000:=by
  have:=z0b z0p l z1o;omega
 have HLN:=Hd hln;obtain⟨a,cap,rfl,hcap,hrow⟩:=hK;obtain⟨fs,hfs⟩:∃fs,fs=l.map (fun x=>z1t clk x s):=⟨_,rfl⟩;obtain⟨R,hR⟩:∃R,R=z2b clk s l m:=⟨_,rfl⟩;rw[←hR];have HZ0:=Hd (show R=q2k [] (fs.drop 0) m from by rw[List.drop_zero,q3c,hR,hfs];rfl);have HFS:=Hd hfs;have hlf:fs.length=l.length:=by rw[hfs,List.length_map]
 clear hrow hf hfs hR h hln;go_enter func109,ntmps109;go_wp2_with fail
 go_loopw [8,13] (fun v8 i wr=>∃(k:Nat) (acc:List DT) (m':Mk),k≤l.length∧i=.int .i64 k∧acc.length=k∧FrS mb w wr∧MkI wr N0 mb vf vs vp vc m'∧CntM m m'∧OwnT w.heap.size acc v8 wr∧R=q2k acc (fs.drop k) m') (fun _ i _=>l.length - (intOf i).toNat)
 case atStart=>exact⟨0,[],m,y1p _,rfl,rfl,y1u _ _,H.o.mk_,CntM.refl hc1,OwnT.none_,HZ0.o⟩
 case round=>
  obtain⟨k,acc,m',hk,rfl,rfl,hfr,hmk,hcm,hown,hR⟩:=hrel;clear HZ0;have HFR:=Hd hfr;have HCM:=Hd hcm;have HOW:=Hd hown;have H1:=Hd (H.o.frS hfr hmk hcm);have HK1:=Hd (HK.o.frS hfr);obtain⟨sa,sc,rfl⟩:=hown.form;by_cases hlt:acc.length<l.length
  ·rw[List.drop_eq_getElem_cons (by rw[hlf];exact hlt),List.getElem_of_eq HFS.o,List.getElem_map] at hR;have hsz:=z0g z0p l l[acc.length] (y1l hlt);obtain⟨a',cap',ha',-,hrow⟩:=HK1.o;obtain⟨b,o,cs,hsa,hbw,hbne,hcl,hC,ho1,hRS⟩:=hrow _ hlt;injection ha' with e1 e2 e3;subst e1;subst hsa;obtain⟨v2,v3,rfl,h2,h3⟩:=RS_iff.1 hRS;have o2:=h2.oneCell;have o3:=h3.oneCell;obtain⟨d0,d1,d2,d3⟩:=hC.get4;obtain⟨W3,hW3,hx3,hb3⟩:=q2d wr (.int .i64 l[acc.length].op) (.string l[acc.length].name) v2 v3 177;have hV3:=hW3.symm;obtain⟨p0,p1,p2,p3⟩:=hb3.get4;have H3:=Hd (H1.o.ext hx3);have hbs:=HLN.o;have KS:=Hd (HF.o l[acc.length] (y1l hlt) sb mp ve m' s W3 _ H3.o (by omega) (RSK.of hRS H3.o.cx.ext H3.o.cx.hB H3.o.lo));have X3:=Hd hx3;generalize l[acc.length]=x at*;have HRR:=Hd hR;clear hW3 hx3 hb3 hC hRS hR hown hmk hcm h2 h3 hrow ho1 e2 e3 hfr;go_wp2_with fail
   go_at_call 149;refine KS.o.mono ?_;rintro e w4 (⟨y,u,hr,rfl,c,rfl,hrt,hmk,hfr,hcm⟩|⟨c,hr,rfl,hfr⟩);rotate_left
   ·exact⟨rfl,.no (by rw[HRR.o,q2k,hr];rfl) ((HFR.o.trans X3.o.chg).trans hfr)⟩
   obtain⟨v4,v5,rfl,h4,h5⟩:=RT9_iff.1 hrt;have o4:=h4.oneCell;have o5:=h5.oneCell;obtain⟨W5,hW5,hx5,hb5⟩:=z6v w4 (.int .i64 y.1.op) (.int .i64 y.1.sig) (.int .i64 y.1.hi) (.int .i64 y.1.lo) v4 v5 73;have hV5:=hW5.symm;have hf5:=((HFR.o.trans X3.o.chg).trans hfr).trans hx5.chg;have HF5:=Hd hf5;have HO5:=Hd ((HOW.o.chg ((X3.o.chg).trans hfr) (fun b hb=>by have:b=mb:=hb;omega)).later hx5);have HB5:=Hd hb5
   have HY:=Hd (show RT9 (fun b=>w.heap.size≤b∧(Value.slice sa acc.length sc).ownBlock≠some b) W5 y.1 [.int .i64 y.1.op,.int .i64 y.1.sig,.int .i64 y.1.hi,.int .i64 y.1.lo,v4,v5] from
    (hrt.imp (fun b _ hb=>⟨y1k (y1k HFR.o.size X3.o.size) hb,fun e=>by
      have h1:=(HOW.o.lt b e).2;have h2:=X3.o.size;omega⟩)).ext hx5)
   have HM5:=Hd (hmk.ext hx5);have HC5:=Hd (HCM.o.trans hcm);have hbw5:w.heap.size≤W5.heap.size:=hf5.size;clear hW5 hx5 hb5 hf5 h4 h5 hrt hmk hfr hcm d0 d1 d2 d3 p0 p1 p2 p3
   go_wp2_with (first
    |(at_builtin;go_loud (
      refine q3k rfl _ _ 68 rfl w.heap.size _ 80 j3s underlying68 rfl (by decide) acc y.1 (.slice sa acc.length sc) rfl HO5.o w4.heap.size 1 _ rfl HB5.o HY.o (by omega) hbw5 ?_;intro v6 w6 hown6 hg6 hge6;have HO6:=Hd hown6;have hc6:Chg (fun b=>w.heap.size≤b) W5 w6:=Chg.grown (y1u _ W5) hg6 (fun g hg _=>hge6 g hg);have hf6:FrS mb w w6:=HF5.o.trans_new hc6 (fun b hb=>hb);have HF6:=Hd hf6;have HM6:=Hd (H.o.mk_.back hf6 HM5.o hc6 (by omega) HC5.o)
      clear hown6 hg6 hge6 hc6 hf6)))
   go_roundw;case rel=>exact⟨acc.length+1,acc++[y.1],y.2,by omega,by go_num,by simp,HF6.o,HM6.o,HC5.o,HO6.o,by rw[HRR.o,q2k,hr];rfl⟩
   case measure=>simp[intOf];omega
  ·have hd:fs.drop acc.length=[]:=by rw[List.drop_eq_nil_iff,hlf];omega
   rw[hd] at hR;have HRR:=Hd (show R=.ok (acc,m') from hR);have HMK:=Hd hmk;clear hR hd hfr hmk hcm hown;go_wp2_with fail
   go_ret;exact .ok HRR.o ⟨HOW.o.slY,HMK.o,HFR.o,HCM.o⟩
theorem z5d(w:World)(g:Nat)(u0 u1 u2 u3 u4 u5:Value):Chg (fun b=>b=g) w ((((((w.setCell ⟨g,0,none⟩ u0).setCell ⟨g,1,none⟩ u1).setCell ⟨g,2,none⟩ u2).setCell ⟨g,3,none⟩ u3).setCell ⟨g,4,none⟩ u4).setCell ⟨g,5,none⟩ u5):=
 (((((y1y (X:=fun b=>b=g) (y1u _ w) (p:=⟨g,0,none⟩) rfl _).setCell (p:=⟨g,1,none⟩) rfl _).setCell (p:=⟨g,2,none⟩) rfl _).setCell (p:=⟨g,3,none⟩) rfl _).setCell (p:=⟨g,4,none⟩) rfl _).setCell (p:=⟨g,5,none⟩) rfl _
theorem z1e(w:World)(g i:Nat)(u:Value):Chg (fun b=>b=g) w (w.setCell ⟨g,i,none⟩ u):=y1y (X:=fun b=>b=g) (y1u _ w) (p:=⟨g,i,none⟩) rfl _
theorem XOk.of{W0:World}{B:Nat}{l:List X}{x:X}{c:List Value}(hx:x∈l)(hc:RX W0 B x c)(hsz:z0e z0l l≤1000000000)(hv:∀y,y∈l→VX y):XOk W0 B x c:=⟨hc,y1k (z0g z0l l x hx) hsz,hv x hx⟩
theorem k8g(W0:World)(B N0 mb:Nat)(vf vs vp vc:Value)(clk:Bool)(x:S)(hvx:∀y,y∈x.x→VX y)
 (hf:∀y,y∈x.l→z5m W0 B N0 mb vf vs vp vc clk 149 (z1t clk) y):z5m W0 B N0 mb vf vs vp vc clk 186 (q7m clk) x:=by
 intro sb mp ve m s w cs h hln hR;have H:=Hd h;have hmw:=h.mk_.blk.lt;have hc1:=h.c1;have hs0:1+z0e z0l x.x+z0e z0p x.l≤1000000:=by rw[←z0w];omega
 have hs1:s.env.length+z0e z0p x.l≤1000000:=by rw[z0w] at hln;omega
 have hlx:x.x.length≤1000000:=by have:=z0b z0l x.x z1n;omega
 obtain⟨v2,v3,rfl,hx2,hl3⟩:=hR;have o3:=hl3.oneCell;have HL:=Hd hl3;obtain⟨a,cap,rfl,hcap,hrow⟩:=hx2;have HW:=Hd hrow;have HVX:=Hd hvx;have HFF:=Hd hf;obtain⟨W1,hW1,hx1,hb1⟩:=q2d w (.int .i64 x.op) (.string x.name) (.slice a x.x.length cap) v3 177;obtain⟨W2,hW2,hx2,hb2⟩:=z6v W1 (.int .i64 0) (.int .i64 0) (.int .i64 0) (.int .i64 0) (.slice none 0 0) (.slice none 0 0) 73;have hV1:=hW1.symm;have hV2:=hW2.symm;have X2:=Hd (hx1.trans hx2);have HB1:=Hd (hb1.ext hx2);have HB2:=Hd hb2;have s1:w.heap.size<W1.heap.size:=hb1.lt;have s2:W1.heap.size<W2.heap.size:=hb2.lt;have KC:=Hd (z1k N0 mb vf vs vp vc m 1 W2 (h.mk_.ext X2.o) h.c0 h.c1 (by decide) (by decide));have HD:=Hd (show q7m clk x s m=(do let m1←z7a 1 m;let y←q0x (x.x.map fun l=>q0i s l) m1;let z←z2b clk s x.l y.2;return(.mk 4 0 0 0 y.1 z.1,z.2)) by rw[k1r];unfold y1e z2b;simp only[List.map_map];rfl);clear hW1 hW2 hx1 hx2 hb1 hb2 h hl3 hrow hvx hf hln;go_enter func186,ntmps186;go_wp2_with fail
 go_at_call 75;refine KC.o.mono ?_;rintro e w3 (⟨m1,u,hr,rfl,rfl,hmk,hfr⟩|⟨c,hr,rfl,hfr⟩);rotate_left
 ·exact⟨rfl,.no (by rw[HD.o,hr];rfl) (X2.o.chg.trans hfr)⟩
 obtain⟨W4z,hWz,hxz,hbz⟩:=z6v w3 (.int .i64 0) (.int .i64 0) (.int .i64 0) (.int .i64 0) (.slice none 0 0) (.slice none 0 0) 73;have hVz:=hWz.symm;obtain⟨k0,k1,k2,k3,k4,k5⟩:=hbz.get6;obtain⟨l0,l1,l2,l3,l4,l5⟩:=hbz.free6;obtain⟨W4,hW4⟩:∃W4,W4=(((((W4z.setCell ⟨w3.heap.size,0,none⟩ (.int .i64 4)).setCell ⟨w3.heap.size,1,none⟩ (.int .i64 0)).setCell ⟨w3.heap.size,2,none⟩ (.int .i64 0)).setCell ⟨w3.heap.size,3,none⟩ (.int .i64 0)).setCell ⟨w3.heap.size,4,none⟩ (.slice none 0 0)).setCell ⟨w3.heap.size,5,none⟩ (.slice none 0 0):=⟨_,rfl⟩;have hV4:=hW4.symm;have hb4:Blk W4 w3.heap.size 73 [.int .i64 4,.int .i64 0,.int .i64 0,.int .i64 0,.slice none 0 0,.slice none 0 0]:=by rw[hW4];exact hbz.store6 _ _ _ _ _ _
 have hx4:Ext w3 W4:=by rw[hW4];exact(((((hxz.setCell (y1j _) _).setCell (y1j _) _).setCell (y1j _) _).setCell (y1j _) _).setCell (y1j _) _).setCell (y1j _) _
 have s3:W2.heap.size≤w3.heap.size:=hfr.size;have s4:w3.heap.size<W4.heap.size:=hb4.lt;have HB14:=Hd ((hfr.blk HB1.o (show¬w.heap.size=mb by omega)).ext hx4);have HB24:=Hd ((hfr.blk HB2.o (show¬W1.heap.size=mb by omega)).ext hx4);have HB44:=Hd hb4;have HR1:=Hd hr;have HF4:=Hd ((X2.o.chg.trans hfr).trans hx4.chg);have HM4:=Hd (hmk.ext hx4);have HC4:=Hd (z6s hr (by decide));obtain⟨c0,c1,c2,c3⟩:=HB14.o.get4;obtain⟨fs,hfs⟩:∃fs,fs=x.x.map (fun l=>q0i s l):=⟨_,rfl⟩;obtain⟨R,hR⟩:∃R,R=q0x fs m1:=⟨_,rfl⟩;have HZ0:=Hd (show R=q2k [] (fs.drop 0) m1 from by rw[List.drop_zero,q3c,hR]);have HRD:=Hd (show R=q0x (x.x.map fun l=>q0i s l) m1 from by rw[hR,hfs]);have HFS:=Hd hfs;have hlf:fs.length=x.x.length:=by rw[hfs,List.length_map]
 clear hWz hxz hbz hW4 hb4 hx4 hfr hmk hr hfs hR;go_wp2_with fail
 clear c0 c1 c2 c3 hV1 hV2 hVz hV4 k0 k1 k2 k3 k4 k5 l0 l1 l2 l3 l4 l5
 go_loopw [19] (fun i wr=>∃(k:Nat) (acc:List DE) (m':Mk) (v4:Value),k≤x.x.length∧i=.int .i64 k∧acc.length=k∧FrS mb w wr∧W4.heap.size≤wr.heap.size∧MkI wr N0 mb vf vs vp vc m'∧CntM m m'∧OwnE W4.heap.size acc v4 wr∧
  Blk wr w.heap.size 177 [.int .i64 x.op,.string x.name,.slice a x.x.length cap,v3]∧Blk wr W1.heap.size 73 [.int .i64 0,.int .i64 0,.int .i64 0,.int .i64 0,.slice none 0 0,.slice none 0 0]∧
  Blk wr w3.heap.size 73 [.int .i64 4,.int .i64 0,.int .i64 0,.int .i64 0,v4,.slice none 0 0]∧R=q2k acc (fs.drop k) m') (fun i _=>x.x.length - (intOf i).toNat)
 case atStart=>exact⟨0,[],m1,_,y1p _,rfl,rfl,HF4.o,y1j _,HM4.o,HC4.o,OwnE.none_,HB14.o,HB24.o,HB44.o,HZ0.o⟩
 case round=>
  obtain⟨k,acc,m',v4,hk,rfl,rfl,hfr,hsz,hmk,hcm,hown,hb1,hb2,hb4,hR⟩:=hrel;clear HZ0 HB14 HB24 HB44;have HFR:=Hd hfr;have HCM:=Hd hcm;have HOW:=Hd hown;have HMK:=Hd hmk;have H1:=Hd (H.o.frS hfr hmk hcm);have HB1:=Hd hb1;have HB2:=Hd hb2;have HB4:=Hd hb4;obtain⟨sa,sc,rfl⟩:=hown.form;by_cases hlt:acc.length<x.x.length
  ·rw[List.drop_eq_getElem_cons (by rw[hlf];exact hlt),List.getElem_of_eq HFS.o,List.getElem_map] at hR;obtain⟨b,o,u0,u1,u2,u3,u4,u5,rfl,hbB,hRx,hC,o0,o1,o2,o3',o4,o5⟩:=HW.o.open6 hlt;obtain⟨d0,d1,d2,d3,d4,d5⟩:=(hC.ext H1.o.cx.ext).get6;have HXO:=Hd (XOk.of (y1l hlt) hRx (by omega) HVX.o);generalize x.x[acc.length]=y at*;have HRR:=Hd hR;obtain⟨W5,hW5,hx5,hb5⟩:=z6v wr u0 u1 u2 u3 u4 u5 40;have hV5:=hW5.symm;obtain⟨p0,p1,p2,p3,p4,p5⟩:=hb5.get6;have H5:=Hd (H1.o.ext hx5);have KN:=Hd (q3z W0 B y _ sb mp ve s W5 H5.o.cx HXO.o H5.o.sc (by omega));have X5:=Hd hx5;clear hW5 hx5 hb5 hC hRx hR hown hmk hcm hfr hb1 hb2 hb4;go_wp2_with fail
   go_at_call 106;refine KN.o.mono ?_;rintro e w6 (⟨z,u,hr,rfl,rfl,hx6⟩|⟨c,hr,rfl,hx6⟩);rotate_left
   ·exact⟨rfl,.no (by rw[HD.o,HR1.o];simp only[bind,Except.bind];rw[←HRD.o,HRR.o,q2k];unfold q0i;rw[hr];rfl) (HFR.o.trans (X5.o.trans hx6).chg)⟩
   obtain⟨z1,z2⟩:=z;have HZ:=Hd hr;obtain⟨W7,hW7,hx7,hb7⟩:=q7l w6 (.int .i64 z1) (.int .u64 z2) 161;have hV7:=hW7.symm;have HB7:=Hd hb7;have hg7:w6.heap.size<W7.heap.size:=hb7.lt;have X7:=Hd ((X5.o.trans hx6).trans hx7);have H7:=Hd (H1.o.ext X7.o);have KC:=Hd (z1k N0 mb vf vs vp vc m' 1 W7 H7.o.mk_ H7.o.c0 H7.o.c1 (by decide) (by decide));have hs67:wr.heap.size≤w6.heap.size:=(X5.o.trans hx6).size;clear hW7 hx7 hb7 hx6 hr d0 d1 d2 d3 d4 d5 p0 p1 p2 p3 p4 p5;go_wp2_with fail
   go_at_call 75;refine KC.o.mono ?_;rintro e w8 (⟨m8,u,hr,rfl,rfl,hmk,hfr⟩|⟨c,hr,rfl,hfr⟩);rotate_left
   ·exact⟨rfl,.no (by rw[HD.o,HR1.o];simp only[bind,Except.bind];rw[←HRD.o,HRR.o,q2k];unfold q0i;rw[HZ.o];simp only[bind,Except.bind];rw[hr]) ((HFR.o.trans X7.o.chg).trans hfr)⟩
   have b7:=hfr.blk HB7.o (show¬w6.heap.size=mb by omega);obtain⟨q0,q1⟩:=b7.get2;have b4:=hfr.blk (HB4.o.ext X7.o) (show¬w3.heap.size=mb by omega);have t4:=b4.cell 4;simp only[List.getElem?_cons_succ,List.getElem?_cons_zero] at t4;obtain⟨W9,hW9,hx9,hb9⟩:=q7r w8 (.int .i64 1) (.int .i64 z1) (.int .u64 z2) (.int .i64 0) (.int .i64 0) (.int .i64 0) (.int .i64 0) (.slice none 0 0) 60;have hV9:=hW9.symm;have f9:=((HFR.o.trans X7.o.chg).trans hfr).trans hx9.chg;have HF9:=Hd f9;have fr9:FrS mb wr W9:=(X7.o.chg.trans hfr).trans hx9.chg;have HO9:=Hd (HOW.o.chg fr9 (fun b hb=>by have:b=mb:=hb;omega));have HB9:=Hd hb9;have B19:=Hd (fr9.blk HB1.o (show¬w.heap.size=mb by omega));have B29:=Hd (fr9.blk HB2.o (show¬W1.heap.size=mb by omega));have B49:=Hd (fr9.blk HB4.o (show¬w3.heap.size=mb by omega));have HM9:=Hd (hmk.ext hx9);have HC9:=Hd (HCM.o.trans (z6s hr (by decide)));have hs9:W4.heap.size≤W9.heap.size:=y1k hsz fr9.size;have HRA:=Hd (show R=q2k (acc++[q2x z1 z2]) (fs.drop (acc.length+1)) m8 from by
    rw[HRR.o,q2k];unfold q0i;rw[HZ.o];simp only[bind,Except.bind];rw[hr]
    rfl)
   have HY:=Hd (RE9.leaf (Y:=fun b=>W4.heap.size≤b∧(Value.slice sa acc.length sc).ownBlock≠some b) (w:=W9) 1 z1 z2 0 0 0 0);clear hW9 hx9 hb9 f9 fr9 hmk hfr hr b7 b4
   go_wp2_with (first
    |(at_builtin;go_loud (
      refine z5r rfl _ _ 58 rfl W4.heap.size _ 80 k7o underlying58 rfl (by decide) acc (q2x z1 z2) (.slice sa acc.length sc) rfl HO9.o w8.heap.size 1 _ rfl HB9.o HY.o (by omega) hs9 ?_;intro v6 w10 hown6 hg6 hge6;obtain⟨a2,k2,hv2⟩:=hown6.form;rw[show(acc++[q2x z1 z2]).length=acc.length+1 from by simp] at hv2;subst hv2;have hc6:Chg (fun b=>W4.heap.size≤b) W9 w10:=Chg.grown (y1u _ W9) hg6 (fun g hg _=>hge6 g hg);have b4:=hc6.blk B49.o (by omega);have t4:=b4.cell 4;have f4:=b4.frozen 4;simp only[List.getElem?_cons_succ,List.getElem?_cons_zero] at t4;obtain⟨W11,hW11⟩:∃W11,W11=w10.setCell ⟨w3.heap.size,4,none⟩ (.slice a2 (acc.length+1) k2):=⟨_,rfl⟩;have hV11:=hW11.symm;have hc11:Chg (fun b=>b=w3.heap.size) w10 W11:=by rw[hW11];exact z1e _ _ _ _
      have hcc:Chg (fun b=>W4.heap.size≤b∨b=w3.heap.size) W9 W11:=(hc6.mono (fun _ _ h=>.inl h)).trans (hc11.mono (fun _ _ h=>.inr h));have B4:=Hd (show Blk W11 w3.heap.size 73 [.int .i64 4,.int .i64 0,.int .i64 0,.int .i64 0,.slice a2 (acc.length+1) k2,.slice none 0 0] by rw[hW11];simpa using b4.set_ 4 (.slice a2 (acc.length+1) k2));have B1:=Hd (hcc.blk B19.o (by omega));have B2:=Hd (hcc.blk B29.o (by omega));have hf11:FrS mb w W11:=HF9.o.trans_new hcc (fun b hb=>by omega);have F11:=Hd hf11;have M11:=Hd (H.o.mk_.back hf11 HM9.o hcc (by omega) HC9.o);have O11:=Hd (hown6.chg hc11 (fun b hb=>by omega));have hs11:W4.heap.size≤W11.heap.size:=y1k hs9 hcc.size
      clear hown6 hg6 hge6 hc6 hW11 hc11 hcc hf11 b4)))
   go_roundw;case rel=>exact⟨acc.length+1,acc++[q2x z1 z2],m8,_,by omega,by go_num,by simp,F11.o,hs11,M11.o,HC9.o,O11.o,B1.o,B2.o,B4.o,HRA.o⟩
   case measure=>simp[intOf];omega
  ·have hd:fs.drop acc.length=[]:=by rw[List.drop_eq_nil_iff,hlf];omega
   rw[hd] at hR;have HRR:=Hd (show R=.ok (acc,m') from hR);obtain⟨c0,c1,c2,c3⟩:=hb1.get4;have KS:=Hd (z8c W0 B N0 mb sb mp vf vs vp vc ve m' s clk x.l v3 wr H1.o (HL.o.frS hfr) HFF.o hs1);clear hR hd hfr hmk hcm hown hb1 hb2 hb4;go_wp2_with fail
   go_at_call 109;refine KS.o.mono ?_;rintro e w6 (⟨z,u,hr,rfl,hsl,hmk,hfr,hcm⟩|⟨c,hr,rfl,hfr⟩);rotate_left
   ·exact⟨rfl,.no (by rw[HD.o,HR1.o];simp only[bind,Except.bind];rw[←HRD.o,HRR.o];simp only;rw[hr]) (HFR.o.trans hfr)⟩
   obtain⟨ta,tc,hu⟩:=hsl.form;obtain⟨nl,hnl⟩:∃nl,nl=z.1.length:=⟨_,rfl⟩;rw[←hnl] at hu;subst hu;have b4:=hfr.blk HB4.o (show¬w3.heap.size=mb by omega);have b2:=hfr.blk HB2.o (show¬W1.heap.size=mb by omega);have t5:=b4.cell 5;have f5:=b4.frozen 5;simp only[List.getElem?_cons_succ,List.getElem?_cons_zero] at t5;have s6:wr.heap.size≤w6.heap.size:=hfr.size;obtain⟨W8,hW8⟩:∃W8,W8=w6.setCell ⟨w3.heap.size,5,none⟩ (.slice ta nl tc):=⟨_,rfl⟩;have hV8:=hW8.symm;have b8:Blk W8 w3.heap.size 73 [.int .i64 4,.int .i64 0,.int .i64 0,.int .i64 0,.slice sa acc.length sc,.slice ta nl tc]:=by rw[hW8];simpa using b4.set_ 5 (.slice ta nl tc)
   have hc8:Chg (fun b=>b=w3.heap.size) w6 W8:=by rw[hW8];exact z1e _ _ _ _
   have b28:=hc8.blk b2 (show¬W1.heap.size=w3.heap.size by omega);obtain⟨q0,q1,q2,q3,q4,q5⟩:=b8.get6;obtain⟨f0',f1',f2',f3',f4',f5'⟩:=b28.free6;obtain⟨g0,g1,g2,g3,g4,g5⟩:=b28.get6;obtain⟨W9,hW9⟩:∃W9,W9=(((((W8.setCell ⟨W1.heap.size,0,none⟩ (.int .i64 4)).setCell ⟨W1.heap.size,1,none⟩ (.int .i64 0)).setCell ⟨W1.heap.size,2,none⟩ (.int .i64 0)).setCell ⟨W1.heap.size,3,none⟩ (.int .i64 0)).setCell ⟨W1.heap.size,4,none⟩ (.slice sa acc.length sc)).setCell ⟨W1.heap.size,5,none⟩ (.slice ta nl tc):=⟨_,rfl⟩;have hV9:=hW9.symm;have b9:Blk W9 W1.heap.size 73 [.int .i64 4,.int .i64 0,.int .i64 0,.int .i64 0,.slice sa acc.length sc,.slice ta nl tc]:=by rw[hW9];exact b28.store6 _ _ _ _ _ _
   have hc9:Chg (fun b=>b=W1.heap.size) W8 W9:=by rw[hW9];exact z5d _ _ _ _ _ _ _ _
   have hcc:Chg (fun b=>b=w3.heap.size∨b=W1.heap.size) w6 W9:=(hc8.mono (fun _ _ h=>.inl h)).trans (hc9.mono (fun _ _ h=>.inr h));have hf9:FrS mb w W9:=(HFR.o.trans hfr).trans_new hcc (fun b hb=>by rcases hb with rfl|rfl<;>omega);have hcm9:=HCM.o.trans hcm;have HM9:=Hd (H.o.mk_.back hf9 hmk hcc (fun hb=>by rcases hb with rfl|rfl<;>omega) hcm9);have HS9:=Hd (show SlT9 (fun b=>w.heap.size≤b) W9 z.1 (.slice ta nl tc) from SlT9.turn hsl hcc (fun b hb hy=>⟨fun e=>by rcases e with rfl|rfl<;>omega,by omega⟩));have HE9:=Hd (show SlE9 (fun b=>w.heap.size≤b) W9 acc (.slice sa acc.length sc) from SlE9.turn (SlE9.turn HOW.o.slY hfr (Y':=fun b=>W4.heap.size≤b) (fun b hb hy=>⟨fun e=>by have:b=mb:=e;omega,hy⟩)) hcc (fun b hb hy=>⟨fun e=>by rcases e with rfl|rfl<;>omega,by omega⟩));have HF9:=Hd hf9;have HC9:=Hd hcm9;have HR9:=Hd (show q7m clk x s m=.ok (.mk 4 0 0 0 acc z.1,z.2) by rw[HD.o,HR1.o];simp only[bind,Except.bind];rw[←HRD.o,HRR.o];simp only;rw[hr];rfl);obtain⟨j0,j1,j2,j3,j4,j5⟩:=b9.get6;clear hsl hmk hfr hcm hr b4 b2 hW8 b8 hc8 b28 hW9 b9 hc9 hcc hf9 hcm9 hnl;go_wp2_with fail
   refine bodyPost_ret (v:=.agg #[.int .i64 4,.int .i64 0,.int .i64 0,.int .i64 0,.slice sa acc.length sc,.slice ta nl tc]) ?_ rfl (.ok HR9.o ⟨[.int .i64 4,.int .i64 0,.int .i64 0,.int .i64 0,.slice sa acc.length sc,.slice ta nl tc],rfl,RT9_iff.2 ⟨_,_,rfl,HE9.o,HS9.o⟩,HM9.o,HF9.o,HC9.o⟩);simp[results,results186,go_sem,j0,j1,j2,j3,j4,j5]
def z9e{σ:Type}(mk:σ→Mk)(st:σ→Mk→σ)(D:Int→σ→Rs σ):Nat→Int→σ→Rs σ
 |0,_,a=>.ok a
 |n+1,v,a=>do
  let m1←z7a 1 (mk a)
  let a'←D v (st a m1)
  z9e mk st D n (v+1) a'
structure PassI{σ:Type}(W0:World)(B N0 mb sb mp:Nat)(s:Sc)(J:σ→World→Prop)(mk:σ→Mk)(st:σ→Mk→σ)(Bad:World→Prop):Prop where
 ctx:∀a w,J a w→∃vf vs vp vc ve,StC W0 B N0 mb sb mp vf vs vp vc ve (mk a) s w
 ext:∀a w w',J a w→Ext w w'→J a w'
 cnt:∀a w w' vf vs vp vc m',J a w→MkI w N0 mb vf vs vp vc (mk a)→MkI w' N0 mb vf vs vp vc m'→FrS mb w w'→CntM (mk a) m'→J (st a m') w'
 bad:∀a w w',J a w→FrS mb w w'→Bad w'
theorem q5j{σ:Type}(W0:World)(B N0 mb sb mp:Nat)(s:Sc)(J:σ→World→Prop)(mk:σ→Mk)(st:σ→Mk→σ)(Bad:World→Prop)(HJ:PassI W0 B N0 mb sb mp s J mk st Bad)(D:Int→σ→Rs σ)(fdo:FuncId)(caps:Array Value)(hcall:Enters Tryz.prog fdo)
 (hdo:∀v a w,z1j v→J a w→Calls Tryz.prog fdo (#[.int .i64 v]++caps) w (RunsP (D v a) (fun a' u w'=>u=z1w∧J a' w') Bad))
 (xl:List X) (vx:Value) (a0:σ) (w:World) (hJ:J a0 w) (hS:Sl (RX W0 B) W0 B 6 xl vx) (h2:xl.length=2) (hsz:z0e z0l xl≤1000000000) (hv:∀y,y∈xl→VX y):
 z9b Tryz.prog 112 #[.pointer (some ⟨mb,0,none⟩),.pointer (some ⟨sb,0,none⟩),vx,.func (.func fdo) #[] caps] w
  (do let a←z1p s (xAt xl 0);let b←z1p s (xAt xl 1);z9e mk st D (b - a).toNat a a0) (fun a' u w'=>u=z1w∧J a' w') Bad:=by
 have HD0:=Hd hdo;have hcf:=hcall.o;obtain⟨vf,vs,vp,vc,ve,h⟩:=HJ.ctx a0 w hJ;have H:=Hd h;obtain⟨la,lc,rfl,hlc,hlr⟩:=hS;have hl0:0<xl.length:=by omega
 have hl:1<xl.length:=by omega
 obtain⟨b0,o0,t0,hla,hb0,hlt0,hC0,ho0,hR0⟩:=hlr 0 hl0;obtain⟨b1,o1,t1,hla1,hb1',hlt1,hC1,ho1,hR1⟩:=hlr 1 hl;subst hla;injection hla1 with e1;injection e1 with e1 e2;subst e1;subst e2;have HX0:=Hd (XOk.of (y1l hl0) hR0 hsz hv);have HX1:=Hd (XOk.of (y1l hl) hR1 hsz hv);obtain⟨x50,rfl,h50⟩:=RX_iff.1 hR0;obtain⟨x51,rfl,h51⟩:=RX_iff.1 hR1;simp only[Nat.zero_mul,Nat.add_zero,Nat.one_mul] at hC0 hC1;rw[z2m (k:=0) hl0,z2m (k:=1) hl];generalize xl[0]=x0 at*;generalize xl[1]=x1 at*;have u0:=h50.oneCell;have u1:=h51.oneCell;obtain⟨d0,d1,d2,d3,d4,d5⟩:=(hC0.ext h.cx.ext).later6;obtain⟨q0,q1,q2,q3,q4,q5⟩:=(hC1.ext h.cx.ext).later6;obtain⟨e0,he0⟩:=y1h (W:=w) (w:=w) (y1g _);have KE0:=Hd (z4p W0 B x0 _ sb mp ve s e0.w (he0▸h.cx) HX0.o (he0▸h.sc) h.gd.env);have KE1:=Hd (fun(w':World) (hw:Ext w w')=>z4p W0 B x1 _ sb mp ve s w' (H.o.cx.later hw) HX1.o (H.o.sc.ext hw) H.o.gd.env);have hk0:(0:Int)<(xl.length:Int):=by omega
 have hk1:(1:Int)<(xl.length:Int):=by omega
 have HJ0:=Hd hJ;have HJJ:=Hd HJ;obtain⟨R,hR⟩:∃R,R=(do let a←z1p s x0;let b←z1p s x1;z9e mk st D (b - a).toNat a a0:Rs σ):=⟨_,rfl⟩;rw[←hR];have HRR:=Hd hR;clear hR hdo hlr hR0 hR1 h50 h51 hlt0 hlt1 hb0 hb1' hC0 hC1 ho0 ho1 hcall hJ HJ h hl0 hl h2 hsz hv;have HW:=Hd (show Ext w e0.w from e0.ext);rw[he0];clear he0;go_enter func112,ntmps112;go_wp2_with fail
 go_at_call 71;refine KE0.o.mono ?_;rintro e w1 (⟨a,u,hr,rfl,rfl,hx1⟩|⟨c,hr,rfl,hx1⟩);rotate_left
 ·exact⟨rfl,.no (by rw[HRR.o,hr];rfl) (HJJ.o.bad a0 w _ HJ0.o (HW.o.trans hx1).chg)⟩
 have hia:=q0o hr;have HR0:=Hd hr;obtain⟨e1,rfl⟩:=y1h (HW.o.trans hx1);clear hr hx1;go_wp2_with fail
 go_at_call 71;refine(KE1.o e1.w e1.ext).mono ?_;rintro e w2 (⟨b,u,hr,rfl,rfl,hx2⟩|⟨c,hr,rfl,hx2⟩);rotate_left
 ·exact⟨rfl,.no (by rw[HRR.o,HR0.o];simp only[bind,Except.bind];rw[hr]) (HJJ.o.bad a0 w _ HJ0.o (e1.ext.trans hx2).chg)⟩
 have hib:=q0o hr;have HZ0:=Hd (show R=z9e mk st D (b - a).toNat a a0 from by rw[HRR.o,HR0.o];simp only[bind,Except.bind];rw[hr]);have HJ2:=Hd (HJJ.o.ext _ _ _ HJ0.o (e1.ext.trans hx2));obtain⟨ha0,ha1⟩:=hia;obtain⟨hb0,hb1⟩:=hib;clear hr hx2 d0 d1 d2 d3 d4 d5 q0 q1 q2 q3 q4 q5 HR0 HRR;go_wp2_with fail
 go_loopw [10] (fun i wr=>∃(v:Int) (c:σ),i=.int .i64 v∧a≤v∧(v≤b∨v=a)∧J c wr∧R=z9e mk st D (b - v).toNat v c) (fun i _=>(b - intOf i).toNat)
 case atStart=>exact⟨a,a0,rfl,Int.le_refl _,.inr rfl,HJ2.o,HZ0.o⟩
 case round=>
  obtain⟨v,c,rfl,hv1,hv2,hj,hR⟩:=hrel;clear HZ0 HJ2;have HJC:=Hd hj;by_cases hlt:v<b
  ·obtain⟨n,hn⟩:∃n,(b - v).toNat=n+1:=⟨(b - v).toNat - 1,by omega⟩;rw[hn,z9e] at hR;have HRR:=Hd hR;obtain⟨vf,vs,vp,vc,ve,h⟩:=HJJ.o.ctx c wr hj;have KC:=Hd (z1k N0 mb vf vs vp vc (mk c) 1 wr h.mk_ h.c0 h.c1 (by decide) (by decide));have HM:=Hd h.mk_;clear hR hj h;go_wp2_with fail
   go_at_call 75;refine KC.o.mono ?_;rintro e w3 (⟨m1,u,hr,rfl,rfl,hmk,hfr⟩|⟨c',hr,rfl,hfr⟩);rotate_left
   ·exact⟨rfl,.no (by rw[HRR.o,hr];rfl) (HJJ.o.bad c wr _ HJC.o hfr)⟩
   have HJ3:=Hd (HJJ.o.cnt c wr w3 _ _ _ _ m1 HJC.o HM.o hmk hfr (z6s hr (by decide)));have HR3:=Hd (show R=(do let a'←D v (st c m1);z9e mk st D n (v+1) a') by rw[HRR.o,hr];rfl);clear hr hmk hfr;go_wp2_with fail
   refine(HD0.o v _ w3 ⟨by omega,by omega⟩ HJ3.o).mono ?_;rintro e w4 (⟨c4,u,hr,rfl,rfl,hj4⟩|⟨c',hr,rfl,hbad⟩);rotate_left
   ·exact⟨rfl,.no (by rw[HR3.o,hr];rfl) hbad⟩
   have HJ4:=Hd hj4;have HR4:=Hd (show R=z9e mk st D n (v+1) c4 by rw[HR3.o,hr];rfl);have hn':(b - (v+1)).toNat=n:=by omega
   clear hr hj4;go_wp2_with fail
   go_roundw;case rel=>exact⟨v+1,c4,by go_num,by omega,by omega,HJ4.o,by rw[hn'];exact HR4.o⟩
   case measure=>simp[intOf];omega
  ·have hz:(b - v).toNat=0:=by omega
   rw[hz,z9e] at hR;have HRR:=Hd hR;clear hR hj;go_wp2_with fail
   go_end0
   exact .ok HRR.o ⟨rfl,HJC.o⟩
end Go.Proofs.YtlfmlodanoolhaaGreatDoor

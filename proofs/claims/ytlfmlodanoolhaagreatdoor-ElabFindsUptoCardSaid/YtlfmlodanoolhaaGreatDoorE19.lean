import Derived.WalkSpells
import Derived.WalkLawsBesides
import Derived.Deep.RegionWith
import Derived.Test.YtlfmlodanoolhaaGreatDoorE16
set_option linter.all false
set_option maxRecDepth 200000
set_option maxHeartbeats 32000000
namespace Go.Proofs.YtlfmlodanoolhaaGreatDoor
open Go Go.RowKit Go.Proofs.Tryz
attribute [local go_sem] z0f
def TOK(C:ByteArray→Prop)(l:List Itm):Prop:=z8b l∧(z1u l).Nodup∧∀s,s∈z1u l→¬C s
theorem k8l(C:ByteArray→Prop):TOK C []:=⟨trivial,by simp[z1u],fun s h=>by cases h⟩
theorem j2q(x:Itm):z1u [x]=tnI x:=by simp[z1u]
theorem j7l(x:Itm):z8b [x]↔k5l x:=by simp[z8b]
theorem k5h{C:ByteArray→Prop}{l:List Itm}{x:Itm}:TOK C (l++[x])↔TOK C l∧k5l x∧(tnI x).Nodup∧∀s,s∈tnI x→¬C s∧¬s∈z1u l:=by
 unfold TOK;rw[q2i,j7l,z7b,j2q,List.nodup_append];constructor
 ·rintro⟨⟨h1,h2⟩,⟨h3,h4,h5⟩,h6⟩;exact⟨⟨h1,h3,fun s hs=>h6 s (List.mem_append_left _ hs)⟩,h2,h4,fun s hs=>⟨h6 s (List.mem_append_right _ hs),fun h=>h5 s h s hs rfl⟩⟩
 ·rintro⟨⟨h1,h3,h6⟩,h2,h4,h5⟩;refine⟨⟨h1,h2⟩,⟨h3,h4,fun a ha b hb e=>(h5 b hb).2 (e▸ha)⟩,fun s hs=>?_⟩;rcases y2e.1 hs with h|h
  ·exact h6 s h
  ·exact(h5 s h).1
theorem k8k{C:ByteArray→Prop}{l:List Itm}{k:Nat}(h:TOK C l):TOK C (l.take k):=by
 have hl:=List.take_append_drop k l;rw[←hl] at h;obtain⟨h1,h2,h3⟩:=h;exact⟨(q2i _ _).1 h1|>.1,by rw[z7b] at h2;exact(List.nodup_append.1 h2).1,fun s hs=>h3 s (by rw[z7b];exact List.mem_append_left _ hs)⟩
theorem q7o{C:ByteArray→Prop}{l:List Itm}{k:Nat}(hk:k<l.length):TOK C (l.take (k+1))↔TOK C (l.take k)∧k5l l[k]∧(tnI l[k]).Nodup∧∀s,s∈tnI l[k]→¬C s∧¬s∈z1u (l.take k):=by
 rw[List.take_succ_eq_append_getElem hk,k5h]
theorem k6g{l:List Itm}{k:Nat}(hk:k<l.length):z1u (l.take (k+1))=z1u (l.take k)++tnI l[k]:=by rw[List.take_succ_eq_append_getElem hk,z7b,j2q]
theorem k5j{C:ByteArray→Prop}{l:List Itm}{k:Nat}(hk:k<l.length)(hd:z5w l[k].op)(h:TOK C (l.take k)):TOK C (l.take (k+1))↔¬(C l[k].name∨l[k].name∈z1u (l.take k)):=by
 rw[q7o hk,j2r,if_pos hd];have h8:l[k].op≠8:=by unfold z5w at hd;omega
 constructor
 ·rintro⟨-,-,-,h⟩ hc;rcases hc with hc|hc
  ·exact(h _ (by simp)).1 hc
  ·exact(h _ (by simp)).2 hc
 ·intro hn;exact⟨h,(j0x _).2 (fun e=>absurd e h8),by simp,fun s hs=>by simp at hs;subst hs;exact⟨fun hc=>hn (.inl hc),fun hc=>hn (.inr hc)⟩⟩
theorem y0a{C:ByteArray→Prop}{l:List Itm}{k:Nat}(hk:k<l.length)(h8:l[k].op=8)(h:TOK C (l.take k)):TOK C (l.take (k+1))↔TOK (fun s=>C s∨s∈z1u (l.take k)) l[k].l∧TOK (fun s=>C s∨s∈z1u (l.take k)) l[k].els:=by
 rw[q7o hk,j2r,if_neg (by unfold z5w;omega),if_pos h8,j0x];constructor
 ·rintro⟨-,h1,-,h3⟩;obtain⟨⟨a1,a2⟩,b1,b2⟩:=h1 h8;refine⟨⟨a1,a2,fun s hs hc=>?_⟩,⟨b1,b2,fun s hs hc=>?_⟩⟩
  ·have:=h3 s ((q0f _ _).2 (.inl hs));exact hc.elim this.1 this.2
  ·have:=h3 s ((q0f _ _).2 (.inr hs));exact hc.elim this.1 this.2
 ·rintro⟨⟨a1,a2,a3⟩,b1,b2,b3⟩;refine⟨h,fun _=>⟨⟨a1,a2⟩,b1,b2⟩,j5g _ _ a2,fun s hs=>?_⟩;rcases(q0f _ _).1 hs with hs|hs
  ·exact⟨fun hc=>a3 s hs (.inl hc),fun hc=>a3 s hs (.inr hc)⟩
  ·exact⟨fun hc=>b3 s hs (.inl hc),fun hc=>b3 s hs (.inr hc)⟩
theorem k5i{C:ByteArray→Prop}{l:List Itm}{k:Nat}(hk:k<l.length)(hd:¬z5w l[k].op)(h8:l[k].op≠8)(h:TOK C (l.take k)):TOK C (l.take (k+1))∧tnI l[k]=[]:=by
 have ht:tnI l[k]=[]:=by rw[j2r,if_neg hd,if_neg h8]
 refine⟨(q7o hk).2 ⟨h,(j0x _).2 (fun e=>absurd e h8),by rw[ht];simp,fun s hs=>by rw[ht] at hs;cases hs⟩,ht⟩
theorem Cells.below{w w':World}{B b o:Nat}{cs:List Value}(h:Cells w b o cs)(hx:Below B w w')(hb:b<B):Cells w' b o cs:=fun j v hj=>(hx.cell hb).trans (h j v hj)
theorem k4c{w w':World}{m B:Nat}(hg:w.grownBy w' (some m))(hm:B≤m)(hB:B≤w.heap.size):Below B w w':=(Below.refl B w).grown hg hB (fun k e=>by cases e;exact hm)
theorem q9i{a b c:World}{m i:Nat}(h:a.grownBy b (some m))(k:b.grownBy c (some i))(hi:a.heap.size≤i):a.grownBy c (some m):=
 ⟨k.os.trans h.os,k.tape.trans h.tape,k.output.trans h.output,y1k h.size k.size,fun j hj hn=>(k.block j (y1m hj h.size) (fun e=>by injection e with e;omega)).trans (h.block j hj hn)⟩
theorem enters_tell:Enters Tryz.prog 94:=⟨fun _ _=>by kernel_rfl⟩
def j0p(B:Nat)(l:List Itm):Prop:=∀(w:World) (v:Value) (f:Scp) (r:List Scp) (p:Option Addr),ScA w p (f::r)→Sl (RI w B) w B 9 l v→B≤w.heap.size→(∀g,g∈f::r→B≤g.m∧g.m<w.heap.size)→
 Calls Tryz.prog 95 #[.pointer p,v] w fun e w'=>
  (TOK (inC (f::r)) l∧e=.returned (.tuple #[])∧ScA w' p ({f with N:=fun t=>f.N t∨t∈z1u l}::r)∧w.grownBy w' (some f.m))∨(¬TOK (inC (f::r)) l∧e=.panicked [q3p]∧w.grownBy w' (some f.m))
theorem Sl.keepI{w w':World}{B:Nat}{l:List Itm}{v:Value}(h:Sl (RI w B) w B 9 l v)(hb:Below B w w'):Sl (RI w' B) w' B 9 l v:=
 h.keep (fun p hp=>hb.cell hp) (y1j _) (fun y _ cs=>RI.keep (fun p hp=>hb.cell hp) (y1j _) y cs)
theorem q8b(B:Nat)(l:List Itm)(hln:l.length≤1000000000)(IH:∀x,x∈l→j0p B x.l∧j0p B x.els):j0p B l:=by
 intro w v f r p hsc hS hB hmB;have hTa:=underlying119;have HS:=Hd hS;obtain⟨a,cap,rfl,hcap,hrow⟩:=hS;have hfm:=hmB f (y1s ..);have HMB:=Hd hmB;have HIH:=Hd IH;have hmf:=@hmf_ Tryz.prog;have het:=enters_tell.o;clear hcap hmB IH;have hst0:=Hd (hsc.congr (N':=fun t=>f.N t∨t∈z1u (l.take 0)) (fun s=>by simp[z1u]));clear hsc;go_enter func95,ntmps95;go_wp2_with fail
 go_loopw [16] (fun i wr=>∃k:Nat,k≤l.length∧i=.int .i64 k∧ScA wr p ({f with N:=fun t=>f.N t∨t∈z1u (l.take k)}::r)∧w.grownBy wr (some f.m)∧TOK (inC (f::r)) (l.take k)) (fun i _=>l.length - (intOf i).toNat)
 case atStart=>exact⟨0,y1p _,rfl,hst0.o,z1v (y1g w),by rw[List.take_zero];exact k8l _⟩
 case round=>
  obtain⟨k,hk,rfl,hs,hg,htk⟩:=hrel;by_cases hlt:k<l.length
  ·obtain⟨b,o,v0,v1,v2,v3,v4,v5,v6,v7,v8,rfl,hbB,hR,hC,o0,o1,o2,o3,o4,o5,o6,o7,o8⟩:=hrow.open9 hlt;have hbw:Below B w wr:=k4c hg hfm.1 hB;obtain⟨d0,d1,d2,d3,d4,d5,d6,d7,d8⟩:=(hC.below hbw hbB).get9;obtain⟨y3,y4,y5,y6,y7,y8,hcs,-,-,hl5,hl6,-,-⟩:=RI_iff.1 hR;simp only[List.cons.injEq,and_true] at hcs;obtain⟨rfl,rfl,rfl,rfl,rfl,rfl,rfl,rfl,rfl⟩:=hcs;have IHk:=Hd (HIH.o l[k] (y1l hlt));have HL5:=Hd (hl5.keepI hbw);have HL6:=Hd (hl6.keepI hbw);have TD:=Hd (fun hd=>k5j hlt hd htk);have TI:=Hd (fun h8=>y0a hlt h8 htk);have TR:=Hd (fun hd h8=>k5i hlt hd h8 htk);have TN:=Hd (k6g hlt);have TE:=Hd (j2r l[k]);have PRE:=Hd (fun(hno:¬TOK (inC (f::r)) (l.take (k+1)))=>(fun(h:TOK (inC (f::r)) l)=>hno (k8k h):¬TOK (inC (f::r)) l));have HS9:=Hd hs;have HG9:=Hd hg;clear hR hC hrow hl5 hl6 htk hs hg HIH HS hst0;have hBr:B≤wr.heap.size:=y1k hB HG9.o.size;generalize l[k]=x at*;obtain⟨Wb,Wc,hVb,⟨m0,m1,m2,m3,m4,m5,m6,m7,m8⟩,⟨n0,n1,n2,n3,n4,n5,n6,n7,n8⟩,hVc,hbc,hxc,hzc⟩:=k8t wr (.int .i64 x.op) (.string x.name) (.string x.of) v3 v4 v5 v6 v7 v8;obtain⟨ec,hec⟩:=y1h (y1g Wc);replace hVc:=hVc.trans hec;obtain⟨c0,c1,c2,c3,c4,c5,c6,c7,c8⟩:=hbc.later9;have HXC:=Hd (hxc.trans ec.ext);have HSC:=Hd (HS9.o.ext (hxc.trans ec.ext));clear hbc hxc hzc hbw hec;by_cases hd:z5w x.op
   ·have td:=Hd (TD.o hd);have tn:=Hd (TN.o.trans (by rw[TE.o,if_pos hd]));clear TD TI TR TN TE IHk HL5 HL6;unfold z5w at hd;rcases hd with h|h|h|h|h|h
    ·have hop:x.op=1:=h;have e1:(x.op==1)=true:=by rw[hop];rfl
     clear h;generalize x.op=op at*;subst hop;go_wp2_with fail
     refine(z4l ec.w _ r p x.name HSC.o).mono ?_;rintro e w1 (⟨hn,rfl,hs1,hg1⟩|⟨hc,rfl,rfl⟩)
     ·have hiff:∀s,(f.N s∨s∈z1u (l.take k))∨s=x.name↔f.N s∨s∈z1u (l.take (k+1)):=fun s=>by rw[tn.o,List.mem_append,List.mem_singleton,or_assoc]
      have TK:=Hd (td.o.2 (fun hc=>hn (inC_cons.2 (by
       rcases hc with hc|hc
       ·rcases inC_cons.1 hc with hc|hc
        ·exact .inl (.inl hc)
        ·exact .inr hc
       ·exact .inl (.inr hc)))))
      have R1:=Hd (hs1.congr hiff);have R2:=Hd (z0t (z0t HG9.o (z1v HXC.o)) hg1);clear hn hs1 hg1 hiff;go_wp2_with fail
      go_roundw;case rel=>exact⟨k+1,by omega,by go_num,R1.o,R2.o,TK.o⟩
      case measure=>simp[intOf];omega
     ·have NO:=Hd (PRE.o (fun hk2=>td.o.1 hk2 (by
       rcases inC_cons.1 hc with(hc|hc)|hc
       ·exact .inl (inC_cons.2 (.inl hc))
       ·exact .inr hc
       ·exact .inl (inC_cons.2 (.inr hc)))))
      have R2:=Hd (z0t HG9.o (z1v HXC.o));clear hc;go_wp2_with fail
      exact⟨rfl,.inr ⟨NO.o,rfl,R2.o⟩⟩
    ·have hop:x.op=2:=h;have e1:(x.op==1)=false:=by rw[hop];rfl
     have e2:(x.op==2)=true:=by rw[hop];rfl
     clear h;generalize x.op=op at*;subst hop;go_wp2_with fail
     refine(z4l ec.w _ r p x.name HSC.o).mono ?_;rintro e w1 (⟨hn,rfl,hs1,hg1⟩|⟨hc,rfl,rfl⟩)
     ·have hiff:∀s,(f.N s∨s∈z1u (l.take k))∨s=x.name↔f.N s∨s∈z1u (l.take (k+1)):=fun s=>by rw[tn.o,List.mem_append,List.mem_singleton,or_assoc]
      have TK:=Hd (td.o.2 (fun hc=>hn (inC_cons.2 (by
       rcases hc with hc|hc
       ·rcases inC_cons.1 hc with hc|hc
        ·exact .inl (.inl hc)
        ·exact .inr hc
       ·exact .inl (.inr hc)))))
      have R1:=Hd (hs1.congr hiff);have R2:=Hd (z0t (z0t HG9.o (z1v HXC.o)) hg1);clear hn hs1 hg1 hiff;go_wp2_with fail
      go_roundw;case rel=>exact⟨k+1,by omega,by go_num,R1.o,R2.o,TK.o⟩
      case measure=>simp[intOf];omega
     ·have NO:=Hd (PRE.o (fun hk2=>td.o.1 hk2 (by
       rcases inC_cons.1 hc with(hc|hc)|hc
       ·exact .inl (inC_cons.2 (.inl hc))
       ·exact .inr hc
       ·exact .inl (inC_cons.2 (.inr hc)))))
      have R2:=Hd (z0t HG9.o (z1v HXC.o));clear hc;go_wp2_with fail
      exact⟨rfl,.inr ⟨NO.o,rfl,R2.o⟩⟩
    ·have hop:x.op=3:=h;have e1:(x.op==1)=false:=by rw[hop];rfl
     have e2:(x.op==2)=false:=by rw[hop];rfl
     have e3:(x.op==3)=true:=by rw[hop];rfl
     clear h;generalize x.op=op at*;subst hop;go_wp2_with fail
     refine(z4l ec.w _ r p x.name HSC.o).mono ?_;rintro e w1 (⟨hn,rfl,hs1,hg1⟩|⟨hc,rfl,rfl⟩)
     ·have hiff:∀s,(f.N s∨s∈z1u (l.take k))∨s=x.name↔f.N s∨s∈z1u (l.take (k+1)):=fun s=>by rw[tn.o,List.mem_append,List.mem_singleton,or_assoc]
      have TK:=Hd (td.o.2 (fun hc=>hn (inC_cons.2 (by
       rcases hc with hc|hc
       ·rcases inC_cons.1 hc with hc|hc
        ·exact .inl (.inl hc)
        ·exact .inr hc
       ·exact .inl (.inr hc)))))
      have R1:=Hd (hs1.congr hiff);have R2:=Hd (z0t (z0t HG9.o (z1v HXC.o)) hg1);clear hn hs1 hg1 hiff;go_wp2_with fail
      go_roundw;case rel=>exact⟨k+1,by omega,by go_num,R1.o,R2.o,TK.o⟩
      case measure=>simp[intOf];omega
     ·have NO:=Hd (PRE.o (fun hk2=>td.o.1 hk2 (by
       rcases inC_cons.1 hc with(hc|hc)|hc
       ·exact .inl (inC_cons.2 (.inl hc))
       ·exact .inr hc
       ·exact .inl (inC_cons.2 (.inr hc)))))
      have R2:=Hd (z0t HG9.o (z1v HXC.o));clear hc;go_wp2_with fail
      exact⟨rfl,.inr ⟨NO.o,rfl,R2.o⟩⟩
    ·have hop:x.op=7:=h;have e1:(x.op==1)=false:=by rw[hop];rfl
     have e2:(x.op==2)=false:=by rw[hop];rfl
     have e3:(x.op==3)=false:=by rw[hop];rfl
     have e7:(x.op==7)=true:=by rw[hop];rfl
     clear h;generalize x.op=op at*;subst hop;go_wp2_with fail
     refine(z4l ec.w _ r p x.name HSC.o).mono ?_;rintro e w1 (⟨hn,rfl,hs1,hg1⟩|⟨hc,rfl,rfl⟩)
     ·have hiff:∀s,(f.N s∨s∈z1u (l.take k))∨s=x.name↔f.N s∨s∈z1u (l.take (k+1)):=fun s=>by rw[tn.o,List.mem_append,List.mem_singleton,or_assoc]
      have TK:=Hd (td.o.2 (fun hc=>hn (inC_cons.2 (by
       rcases hc with hc|hc
       ·rcases inC_cons.1 hc with hc|hc
        ·exact .inl (.inl hc)
        ·exact .inr hc
       ·exact .inl (.inr hc)))))
      have R1:=Hd (hs1.congr hiff);have R2:=Hd (z0t (z0t HG9.o (z1v HXC.o)) hg1);clear hn hs1 hg1 hiff;go_wp2_with fail
      go_roundw;case rel=>exact⟨k+1,by omega,by go_num,R1.o,R2.o,TK.o⟩
      case measure=>simp[intOf];omega
     ·have NO:=Hd (PRE.o (fun hk2=>td.o.1 hk2 (by
       rcases inC_cons.1 hc with(hc|hc)|hc
       ·exact .inl (inC_cons.2 (.inl hc))
       ·exact .inr hc
       ·exact .inl (inC_cons.2 (.inr hc)))))
      have R2:=Hd (z0t HG9.o (z1v HXC.o));clear hc;go_wp2_with fail
      exact⟨rfl,.inr ⟨NO.o,rfl,R2.o⟩⟩
    ·have hop:x.op=10:=h;have e1:(x.op==1)=false:=by rw[hop];rfl
     have e2:(x.op==2)=false:=by rw[hop];rfl
     have e3:(x.op==3)=false:=by rw[hop];rfl
     have e7:(x.op==7)=false:=by rw[hop];rfl
     have e10:(x.op==10)=true:=by rw[hop];rfl
     clear h;generalize x.op=op at*;subst hop;go_wp2_with fail
     refine(z4l ec.w _ r p x.name HSC.o).mono ?_;rintro e w1 (⟨hn,rfl,hs1,hg1⟩|⟨hc,rfl,rfl⟩)
     ·have hiff:∀s,(f.N s∨s∈z1u (l.take k))∨s=x.name↔f.N s∨s∈z1u (l.take (k+1)):=fun s=>by rw[tn.o,List.mem_append,List.mem_singleton,or_assoc]
      have TK:=Hd (td.o.2 (fun hc=>hn (inC_cons.2 (by
       rcases hc with hc|hc
       ·rcases inC_cons.1 hc with hc|hc
        ·exact .inl (.inl hc)
        ·exact .inr hc
       ·exact .inl (.inr hc)))))
      have R1:=Hd (hs1.congr hiff);have R2:=Hd (z0t (z0t HG9.o (z1v HXC.o)) hg1);clear hn hs1 hg1 hiff;go_wp2_with fail
      go_roundw;case rel=>exact⟨k+1,by omega,by go_num,R1.o,R2.o,TK.o⟩
      case measure=>simp[intOf];omega
     ·have NO:=Hd (PRE.o (fun hk2=>td.o.1 hk2 (by
       rcases inC_cons.1 hc with(hc|hc)|hc
       ·exact .inl (inC_cons.2 (.inl hc))
       ·exact .inr hc
       ·exact .inl (inC_cons.2 (.inr hc)))))
      have R2:=Hd (z0t HG9.o (z1v HXC.o));clear hc;go_wp2_with fail
      exact⟨rfl,.inr ⟨NO.o,rfl,R2.o⟩⟩
    ·have hop:x.op=9:=h;have e1:(x.op==1)=false:=by rw[hop];rfl
     have e2:(x.op==2)=false:=by rw[hop];rfl
     have e3:(x.op==3)=false:=by rw[hop];rfl
     have e7:(x.op==7)=false:=by rw[hop];rfl
     have e10:(x.op==10)=false:=by rw[hop];rfl
     have e9:(x.op==9)=true:=by rw[hop];rfl
     clear h;generalize x.op=op at*;subst hop;go_wp2_with fail
     refine(z4l ec.w _ r p x.name HSC.o).mono ?_;rintro e w1 (⟨hn,rfl,hs1,hg1⟩|⟨hc,rfl,rfl⟩)
     ·have hiff:∀s,(f.N s∨s∈z1u (l.take k))∨s=x.name↔f.N s∨s∈z1u (l.take (k+1)):=fun s=>by rw[tn.o,List.mem_append,List.mem_singleton,or_assoc]
      have TK:=Hd (td.o.2 (fun hc=>hn (inC_cons.2 (by
       rcases hc with hc|hc
       ·rcases inC_cons.1 hc with hc|hc
        ·exact .inl (.inl hc)
        ·exact .inr hc
       ·exact .inl (.inr hc)))))
      have R1:=Hd (hs1.congr hiff);have R2:=Hd (z0t (z0t HG9.o (z1v HXC.o)) hg1);clear hn hs1 hg1 hiff;go_wp2_with fail
      go_roundw;case rel=>exact⟨k+1,by omega,by go_num,R1.o,R2.o,TK.o⟩
      case measure=>simp[intOf];omega
     ·have NO:=Hd (PRE.o (fun hk2=>td.o.1 hk2 (by
       rcases inC_cons.1 hc with(hc|hc)|hc
       ·exact .inl (inC_cons.2 (.inl hc))
       ·exact .inr hc
       ·exact .inl (inC_cons.2 (.inr hc)))))
      have R2:=Hd (z0t HG9.o (z1v HXC.o));clear hc;go_wp2_with fail
      exact⟨rfl,.inr ⟨NO.o,rfl,R2.o⟩⟩
   ·by_cases h8:x.op=8
    ·have ti:=Hd (TI.o h8);have tn:=Hd (TN.o.trans (by rw[TE.o,if_neg hd,if_pos h8]));unfold z5w at hd;have e1:(x.op==1)=false:=by simp;omega
     have e2:(x.op==2)=false:=by simp;omega
     have e3:(x.op==3)=false:=by simp;omega
     have e7:(x.op==7)=false:=by simp;omega
     have e10:(x.op==10)=false:=by simp;omega
     have e9:(x.op==9)=false:=by simp;omega
     have e8:(x.op==8)=true:=by simpa using h8
     clear TD TI TR TN TE hd h8;generalize x.op=op at*;have HM2:=HMB;go_wp2_with fail
     go_at_call 93;refine(z6f ec.w p _ HSC.o (fun g hgm=>by
      have h1:=HG9.o.size;have h2:=HXC.o.size;rcases List.mem_cons.1 hgm with rfl|hgm
      ·have:=hfm.2;show f.m<_;omega
      ·have:=(HMB.o g (y1r _ hgm)).2;omega)).mono ?_
     rintro _ w1 ⟨b1,q1,rfl,hs1,hx1,hm1,hm1'⟩;have hs1':ScA w1 p ({f with N:=fun t=>f.N t∨t∈z1u (l.take k)}::r):=HSC.o.ext hx1;obtain⟨e1,rfl⟩:=y1h (ec.ext.trans hx1);have S1:=Hd hs1;have S1':=Hd hs1';have X1:=Hd hx1;clear hs1 hs1' hx1;go_wp2_with fail
     go_at_call 93;refine(z6f e1.w p _ S1'.o (fun g hgm=>by
      have h1:=HG9.o.size;have h2:=HXC.o.size;have h3:=X1.o.size;rcases List.mem_cons.1 hgm with rfl|hgm
      ·have:=hfm.2;show f.m<_;omega
      ·have:=(HMB.o g (y1r _ hgm)).2;omega)).mono ?_
     rintro _ w2 ⟨b2,q2,rfl,hs2,hx2,hm2,hm2'⟩;obtain⟨e2,rfl⟩:=y1h (e1.ext.trans hx2);have hX2:Ext wr e2.w:=(HXC.o.trans X1.o).trans hx2;have hb2:Below B wr e2.w:=(Below.refl B wr).trans (hX2.mono hBr);have S2:=Hd hs2;have S1b:=Hd (S1.o.ext hx2);have hszA:=hX2.size;have hszB:=hx2.size;have HX2:=Hd hX2;have HB2:=Hd hb2;have hrc:wr.heap.size≤ec.w.heap.size:=HXC.o.size;have hwc:Wc.heap.size≤ec.w.heap.size:=ec.ext.size;have hbig:∀g,g∈({f with N:=fun t=>f.N t∨t∈z1u (l.take k)}:Scp)::r→B≤g.m∧g.m<wr.heap.size:=fun g hgm=>by
      have h1:=HG9.o.size;rcases List.mem_cons.1 hgm with rfl|hgm
      ·exact⟨hfm.1,by show f.m<_;have:=hfm.2;omega⟩
      ·have:=HMB.o g (y1r _ hgm);exact⟨this.1,by omega⟩
     have HBIG:=Hd hbig;clear hs2 hx2 hX2 hb2 hbig;go_wp2_with fail
     go_at_call 95;refine(IHk.o.1 e2.w v5 ⟨b1,q1,fun _=>False⟩ _ _ S1b.o (HL5.o.keepI HB2.o) (y1k hBr HX2.o.size) (fun g hgm=>by
      rcases List.mem_cons.1 hgm with rfl|hgm
      ·exact⟨by show B≤q1;omega,by show q1<_;omega⟩
      ·have:=HBIG.o g hgm;exact⟨this.1,by omega⟩)).mono ?_
     rintro _ w3 (⟨hok3,rfl,hs3,hg3⟩|⟨hno3,rfl,hg3⟩)<;>replace hg3:e2.w.grownBy w3 (some q1):=hg3;rotate_left
     ·have NO:=Hd (PRE.o (fun hk2=>hno3 (by
       have h:=(ti.o.1 hk2).1;refine⟨h.1,h.2.1,fun s hs hc=>h.2.2 s hs ?_⟩;rcases inC_cons.1 hc with hc|hc
       ·exact hc.elim
       ·rcases inC_cons.1 hc with(hc|hc)|hc
        ·exact .inl (inC_cons.2 (.inl hc))
        ·exact .inr hc
        ·exact .inl (inC_cons.2 (.inr hc)))))
      have R2:=Hd (z0t HG9.o (z1v (z4y HX2.o hg3 (by omega))));clear hno3 hg3;go_wp2_with fail
      exact⟨rfl,.inr ⟨NO.o,rfl,R2.o⟩⟩
     have hg3':=hg3;have hx3:Ext wr w3:=z4y HX2.o hg3 (by omega);have hx3c:Ext Wc w3:=z4y e2.ext hg3 (by omega);obtain⟨e3,rfl⟩:=y1h hx3c;have hb3:Below B wr e3.w:=(Below.refl B wr).trans (hx3.mono hBr);have hs2b:=S2.o.kept hg3 (fun i hi=>by
      cases hi;refine⟨fun g hgm=>?_,z4j S1b.o.2.2.1⟩;rcases List.mem_cons.1 hgm with rfl|hgm
      ·show q2≠q1;omega
      ·have:=HBIG.o g hgm;omega)
     have S3:=Hd hs3;have S2b:=Hd hs2b;have HX3:=Hd hx3;have HB3:=Hd hb3;have OK3:=Hd hok3;have hsz3:=hg3.size;clear hs3 hs2b hx3 hb3 hx3c hg3 hok3 hg3';go_wp2_with fail
     go_at_call 95;refine(IHk.o.2 e3.w v6 ⟨b2,q2,fun _=>False⟩ _ _ S2b.o (HL6.o.keepI HB3.o) (y1k hBr HX3.o.size) (fun g hgm=>by
      rcases List.mem_cons.1 hgm with rfl|hgm
      ·exact⟨by show B≤q2;omega,by show q2<_;omega⟩
      ·have:=HBIG.o g hgm;exact⟨this.1,by omega⟩)).mono ?_
     rintro _ w4 (⟨hok4,rfl,hs4,hg4⟩|⟨hno4,rfl,hg4⟩)<;>replace hg4:e3.w.grownBy w4 (some q2):=hg4;rotate_left
     ·have NO:=Hd (PRE.o (fun hk2=>hno4 (by
       have h:=(ti.o.1 hk2).2;refine⟨h.1,h.2.1,fun s hs hc=>h.2.2 s hs ?_⟩;rcases inC_cons.1 hc with hc|hc
       ·exact hc.elim
       ·rcases inC_cons.1 hc with(hc|hc)|hc
        ·exact .inl (inC_cons.2 (.inl hc))
        ·exact .inr hc
        ·exact .inl (inC_cons.2 (.inr hc)))))
      have R2:=Hd (z0t HG9.o (z1v (z4y HX3.o hg4 (by omega))));clear hno4 hg4;go_wp2_with fail
      exact⟨rfl,.inr ⟨NO.o,rfl,R2.o⟩⟩
     have OK:=Hd (ti.o.2 ⟨by
      obtain⟨h1,h2,h3⟩:=OK3.o;refine⟨h1,h2,fun s hs hc=>h3 s hs (inC_cons.2 (.inr ?_))⟩;rcases hc with hc|hc
      ·rcases inC_cons.1 hc with hc|hc
       ·exact inC_cons.2 (.inl (.inl hc))
       ·exact inC_cons.2 (.inr hc)
      ·exact inC_cons.2 (.inl (.inr hc)),by
      obtain⟨h1,h2,h3⟩:=hok4;refine⟨h1,h2,fun s hs hc=>h3 s hs (inC_cons.2 (.inr ?_))⟩;rcases hc with hc|hc
      ·rcases inC_cons.1 hc with hc|hc
       ·exact inC_cons.2 (.inl (.inl hc))
       ·exact inC_cons.2 (.inr hc)
      ·exact inC_cons.2 (.inl (.inr hc))⟩)
     have hx4:Ext wr w4:=z4y HX3.o hg4 (by omega);have hx4c:Ext Wc w4:=z4y e3.ext hg4 (by omega);obtain⟨e4,rfl⟩:=y1h hx4c;have hsz4e:=hx4.size;have hs3b:=S3.o.kept hg4 (fun i hi=>by
      cases hi;refine⟨fun g hgm=>?_,z4j S2b.o.2.2.1⟩;rcases List.mem_cons.1 hgm with rfl|hgm
      ·show q1≠q2;omega
      ·have:=HBIG.o g hgm;omega)
     have hsz4:=hg4.size;obtain⟨W5,hW5⟩:∃W5,W5=e4.w.alloc (.cells #[.pointer (some ⟨b1,0,none⟩),.pointer (some ⟨b2,0,none⟩)] 148):=⟨_,rfl⟩;have hx5:Ext e4.w W5:=by rw[hW5];exact y1v _ _
     have hb5:Blk W5 e4.w.heap.size 148 [.pointer (some ⟨b1,0,none⟩),.pointer (some ⟨b2,0,none⟩)]:=by rw[hW5];exact y1w _ _ [_,_]
     have hz5:W5.heap.size=e4.w.heap.size+1:=by rw[hW5];simp
     have hV5:=hW5.symm;obtain⟨-,t11,t12,-,t14,t15,t16,t17⟩:=hs3b.ext hx5;replace t11:b1<W5.heap.size:=t11;replace t12:SetB W5 q1 (fun t=>False∨t∈z1u x.l):=t12;replace t16:W5.cell? ⟨b1,1,none⟩=some (.map (some q1)):=t16;obtain⟨-,t21,t22,-,t24,t25,t26,t27⟩:=hs4.ext hx5;replace t21:b2<W5.heap.size:=t21;replace t22:SetB W5 q2 (fun t=>False∨t∈z1u x.els):=t22;replace t26:W5.cell? ⟨b2,1,none⟩=some (.map (some q2)):=t26;have hxw5:Ext wr W5:=hx4.trans hx5;have SW5:=Hd (show ScA W5 p ({f with N:=fun t=>f.N t∨t∈z1u (l.take k)}::r) from HS9.o.ext hxw5);have HX5:=Hd hxw5;simp only[false_or] at t12 t22;have T12:=Hd t12;have T22:=Hd t22;have hnb1:b1≠f.m:=fun e=>by
      obtain⟨q,h4,-⟩:=S1b.o.2.2.2.2;have hm:=(HS9.o.ext HX2.o).2.2.1;rw[e] at h4;exact z4j hm _ h4
     have hge1:wr.heap.size≤q1:=by omega
     have hge2:wr.heap.size≤q2:=by omega
     have hfw:f.m<wr.heap.size:=(HBIG.o _ (y1s ..)).2;have hq1:q1<W5.heap.size:=by omega
     have hq2:q2<W5.heap.size:=by omega
     have hnb2:b2≠f.m:=fun e=>by
      obtain⟨q,h4,-⟩:=S2.o.2.2.2.2;have hm:=(HS9.o.ext HX2.o).2.2.1;rw[e] at h4;exact z4j hm _ h4
     obtain⟨W5',hW5'⟩:∃W5',W5'=W5:=⟨_,rfl⟩;have CL5:=Hd hb5;have R1:=Hd (y1x t11 t16);have R2:=Hd (y1x t21 t26);clear hs4 hg4 hok4 hx4 hx4c hs3b hx5 hW5 hb5 t11 t12 t14 t15 t16 t17 t21 t22 t24 t25 t26 t27 hxw5 S1 S1' S2 S1b S2b S3 OK3 IHk HL5 HL6 HB2 HB3 HX2 HX3 X1 hszA hszB hsz3 hsz4 hm1 hm1' hm2 hm2';obtain⟨wo,hwo⟩:∃wo,wo=wr:=⟨_,rfl⟩;subst hwo;go_wp2_with fail
     go_loopw [51] (fun j wy=>∃q:Nat,q≤2∧j=.int .i64 q∧ScA wy p ({f with N:=fun t=>(f.N t∨t∈z1u (l.take k))∨1≤q∧t∈z1u x.l∨2≤q∧t∈z1u x.els}::r)∧W5.grownBy wy (some f.m)) (fun j _=>2 - (intOf j).toNat)
     case atStart=>exact⟨0,by omega,rfl,SW5.o.congr (fun s=>by simp),z1v (y1g W5)⟩
     case round=>
      obtain⟨wy,hwy⟩:∃wy,wy=wr:=⟨_,rfl⟩;subst hwy;obtain⟨q,hq,rfl,hsy,hgy⟩:=hrel;have hcb:∀i,wy.cell? ⟨e4.w.heap.size,i,none⟩=W5.cell? ⟨e4.w.heap.size,i,none⟩:=fun i=>y2b (hgy.block _ CL5.o.lt (fun e=>by have e2:e4.w.heap.size=f.m:=Option.some.inj e;omega))
      obtain⟨p0,p1⟩:=CL5.o.get2;rw[←hcb] at p0 p1;rcases(show q=0∨q=1∨q=2 by omega) with rfl|rfl|rfl
      ·have hcs:wy.cell? ⟨b1,1,none⟩=some (.map (some q1)):=(y2b (hgy.block _ R1.o.1 (fun e=>by injection e with e;exact hnb1 e))).trans R1.o.2;have hst:SetB wy q1 (fun t=>t∈z1u x.l):=T12.o.kept hgy (fun e=>by injection e with e;omega);obtain⟨o9,k9,hrun,hrg⟩:=hst.range hTa;have hse:ScA (wy.alloc o9) p ({f with N:=fun t=>((f.N t∨t∈z1u (l.take k))∨1≤0∧t∈z1u x.l∨2≤0∧t∈z1u x.els)∨False}::r):=(hsy.ext (y1v _ _)).congr (fun s=>by simp);have RG:=Hd hrg;have SE:=Hd hse;have GY:=Hd hgy;have hszy:=hgy.size;clear hst hrg hse hsy hgy hcb;go_wp2_with fail
       go_loopw [11] (fun u wz=>∃(D:ByteArray→Prop) (kk:Nat),RangeB wz wy.heap.size q1 (fun t=>t∈z1u x.l) D kk∧ScA wz p ({f with N:=fun t=>((f.N t∨t∈z1u (l.take k))∨1≤0∧t∈z1u x.l∨2≤0∧t∈z1u x.els)∨D t}::r)∧wy.grownBy wz (some f.m)) (fun u wz=>q0b wz wy.heap.size)
       case atStart=>exact⟨_,k9,RG.o,SE.o,z1v (y1v _ _)⟩
       case round=>
        obtain⟨wz,hwz⟩:∃wz,wz=wr:=⟨_,rfl⟩;subst hwz;obtain⟨D,kk,hrz,hsz,hgz⟩:=hrel;rcases hrz.next (P:=Tryz.prog) 0 with⟨hnx,hall⟩|⟨s,wn,hNs,hpos,hnx,hrn,hgn,hent⟩
        ·have DS:∀t,D t→t∈z1u x.l:=fun t ht=>by
          obtain⟨es,clock,since,seen,c0,-,-,-,-,h3,-,-,-,-,h7⟩:=hrz;obtain⟨e,he,-,hk9⟩:=(h7 t).2 ht;exact(h3 t).1 ⟨e,he,hk9⟩
         have F1:=Hd (hsz.congr (N':=fun t=>(f.N t∨t∈z1u (l.take k))∨1≤1∧t∈z1u x.l∨2≤1∧t∈z1u x.els) (fun t=>by
          have h1:=hall t;have h2:=DS t;constructor
          ·rintro(h|h)
           ·exact h.elim .inl (fun h=>h.elim (fun h=>absurd h.1 (by omega)) (fun h=>absurd h.1 (by omega)))
           ·exact .inr (.inl ⟨by omega,h2 h⟩)
          ·rintro(h|h|h)
           ·exact .inl (.inl h)
           ·exact .inr (h1 h.2)
           ·exact absurd h.1 (by omega)))
         have F2:=Hd (z0t GY.o hgz);clear hrz hsz hgz hall DS;go_wp2_with fail
         go_roundw;case rel=>exact⟨1,by omega,by go_num,F1.o,F2.o⟩
         case measure=>simp[intOf]
        ·have hlz:=z3q hrz;have hln9:=z3q hrn;have hsn:=hsz.kept hgn (fun i hi=>by
          cases hi;refine⟨fun g hgm=>?_,fun v hv=>?_⟩
          ·have h2:g.m<wo.heap.size:=by
            rcases List.mem_cons.1 hgm with rfl|hgm
            ·exact hfw
            ·exact(HBIG.o g (y1r _ hgm)).2
           have:=HX5.o.size;omega
          ·obtain⟨es,clock,since,seen,c0,hr9,-⟩:=hrz;simp[World.cell?,hr9] at hv)
         obtain⟨hsn1,hsn2,hsn3,hsn4,qn,hsn5,hsn6,hsn7⟩:=id hsn;obtain⟨o8,hup,hset⟩:=hsn3.add hTa underlying9 s;have hgu:=z4i wn f.m o8;have F0:=Hd (hrn.kept hgu (fun e=>by injection e with e;omega) (fun e=>by injection e with e;have:=HX5.o.size;omega));have F1:=Hd ((hsn.more hgu hset).congr (N':=fun t=>((f.N t∨t∈z1u (l.take k))∨1≤0∧t∈z1u x.l∨2≤0∧t∈z1u x.els)∨D t∨t=s) (fun t=>or_assoc));have F2:=Hd (z0t (q9i hgz hgn (y1j _)) hgu);have F3:=Hd (z3q F0.o);obtain rfl:p=some ⟨f.b,0,none⟩:=hsn1;clear hrz hsz hgz hrn hgn hsn hsn2 hsn3 hsn4 hsn7 hset hgu;go_wp2_with fail
         go_roundw;case rel=>exact⟨_,kk - 1,F0.o,F1.o,F2.o⟩
         case measure=>rw[F3.o,hlz];omega
      ·have hcs:wy.cell? ⟨b2,1,none⟩=some (.map (some q2)):=(y2b (hgy.block _ R2.o.1 (fun e=>by injection e with e;exact hnb2 e))).trans R2.o.2;have hst:SetB wy q2 (fun t=>t∈z1u x.els):=T22.o.kept hgy (fun e=>by injection e with e;omega);obtain⟨o9,k9,hrun,hrg⟩:=hst.range hTa;have hse:ScA (wy.alloc o9) p ({f with N:=fun t=>((f.N t∨t∈z1u (l.take k))∨1≤1∧t∈z1u x.l∨2≤1∧t∈z1u x.els)∨False}::r):=(hsy.ext (y1v _ _)).congr (fun s=>by simp);have RG:=Hd hrg;have SE:=Hd hse;have GY:=Hd hgy;have hszy:=hgy.size;clear hst hrg hse hsy hgy hcb;go_wp2_with fail
       go_loopw [11] (fun u wz=>∃(D:ByteArray→Prop) (kk:Nat),RangeB wz wy.heap.size q2 (fun t=>t∈z1u x.els) D kk∧ScA wz p ({f with N:=fun t=>((f.N t∨t∈z1u (l.take k))∨1≤1∧t∈z1u x.l∨2≤1∧t∈z1u x.els)∨D t}::r)∧wy.grownBy wz (some f.m)) (fun u wz=>q0b wz wy.heap.size)
       case atStart=>exact⟨_,k9,RG.o,SE.o,z1v (y1v _ _)⟩
       case round=>
        obtain⟨wz,hwz⟩:∃wz,wz=wr:=⟨_,rfl⟩;subst hwz;obtain⟨D,kk,hrz,hsz,hgz⟩:=hrel;rcases hrz.next (P:=Tryz.prog) 0 with⟨hnx,hall⟩|⟨s,wn,hNs,hpos,hnx,hrn,hgn,hent⟩
        ·have DS:∀t,D t→t∈z1u x.els:=fun t ht=>by
          obtain⟨es,clock,since,seen,c0,-,-,-,-,h3,-,-,-,-,h7⟩:=hrz;obtain⟨e,he,-,hk9⟩:=(h7 t).2 ht;exact(h3 t).1 ⟨e,he,hk9⟩
         have F1:=Hd (hsz.congr (N':=fun t=>(f.N t∨t∈z1u (l.take k))∨1≤2∧t∈z1u x.l∨2≤2∧t∈z1u x.els) (fun t=>by
          have h1:=hall t;have h2:=DS t;constructor
          ·rintro(h|h)
           ·exact h.elim .inl (fun h=>h.elim (fun h=>.inr (.inl ⟨by omega,h.2⟩)) (fun h=>absurd h.1 (by omega)))
           ·exact .inr (.inr ⟨by omega,h2 h⟩)
          ·rintro(h|h|h)
           ·exact .inl (.inl h)
           ·exact .inl (.inr (.inl ⟨by omega,h.2⟩))
           ·exact .inr (h1 h.2)))
         have F2:=Hd (z0t GY.o hgz);clear hrz hsz hgz hall DS;go_wp2_with fail
         go_roundw;case rel=>exact⟨2,by omega,by go_num,F1.o,F2.o⟩
         case measure=>simp[intOf]
        ·have hlz:=z3q hrz;have hln9:=z3q hrn;have hsn:=hsz.kept hgn (fun i hi=>by
          cases hi;refine⟨fun g hgm=>?_,fun v hv=>?_⟩
          ·have h2:g.m<wo.heap.size:=by
            rcases List.mem_cons.1 hgm with rfl|hgm
            ·exact hfw
            ·exact(HBIG.o g (y1r _ hgm)).2
           have:=HX5.o.size;omega
          ·obtain⟨es,clock,since,seen,c0,hr9,-⟩:=hrz;simp[World.cell?,hr9] at hv)
         obtain⟨hsn1,hsn2,hsn3,hsn4,qn,hsn5,hsn6,hsn7⟩:=id hsn;obtain⟨o8,hup,hset⟩:=hsn3.add hTa underlying9 s;have hgu:=z4i wn f.m o8;have F0:=Hd (hrn.kept hgu (fun e=>by injection e with e;omega) (fun e=>by injection e with e;have:=HX5.o.size;omega));have F1:=Hd ((hsn.more hgu hset).congr (N':=fun t=>((f.N t∨t∈z1u (l.take k))∨1≤1∧t∈z1u x.l∨2≤1∧t∈z1u x.els)∨D t∨t=s) (fun t=>or_assoc));have F2:=Hd (z0t (q9i hgz hgn (y1j _)) hgu);have F3:=Hd (z3q F0.o);obtain rfl:p=some ⟨f.b,0,none⟩:=hsn1;clear hrz hsz hgz hrn hgn hsn hsn2 hsn3 hsn4 hsn7 hset hgu;go_wp2_with fail
         go_roundw;case rel=>exact⟨_,kk - 1,F0.o,F1.o,F2.o⟩
         case measure=>rw[F3.o,hlz];omega
      ·have FINs:=Hd (hsy.congr (N':=fun t=>f.N t∨t∈z1u (l.take (k+1))) (fun s=>by
        rw[tn.o,List.mem_append,q0f];simp[or_assoc]))
       have FINg:=Hd (z0t (z0t HG9.o (z1v HX5.o)) hgy);clear hsy hgy hcb p0 p1;go_wp2_with fail
       go_roundw;case rel=>exact⟨k+1,by omega,by go_num,FINs.o,FINg.o,OK.o⟩
       case measure=>simp[intOf];omega
    ·obtain⟨tk,tx⟩:=TR.o hd h8;have tn:=Hd (TN.o.trans (by rw[tx,List.append_nil]));have TK:=Hd tk;unfold z5w at hd;have e1:(x.op==1)=false:=by simp;omega
     have e2:(x.op==2)=false:=by simp;omega
     have e3:(x.op==3)=false:=by simp;omega
     have e7:(x.op==7)=false:=by simp;omega
     have e10:(x.op==10)=false:=by simp;omega
     have e9:(x.op==9)=false:=by simp;omega
     have e8:(x.op==8)=false:=by simpa using h8
     clear TD TI TR TN TE hd h8 tk tx IHk HL5 HL6;generalize x.op=op at*;go_wp2_with fail
     go_roundw;case rel=>exact⟨k+1,by omega,by go_num,by rw[tn.o];exact HSC.o,z0t HG9.o (z1v HXC.o),TK.o⟩
     case measure=>simp[intOf];omega
  ·have hkl:k=l.length:=by omega
   subst hkl;rw[List.take_length] at hs htk;have FIN:=Hd (y1x htk (y1x hs hg));clear hs htk hg hst0;go_wp2_with fail
   go_end0
   exact .inl ⟨FIN.o.1,rfl,FIN.o.2.1,FIN.o.2.2⟩
theorem q8c(B:Nat):∀(n:Nat) (l:List Itm),z0e z0i l≤n→n≤1000000000→j0p B l:=by
 intro n;induction n with
 |zero=>
  intro l hl hn;refine q8b B l (by have:=z0b z0i l z1i;omega) fun x hx=>?_
  have:=z0g z0i l x hx;have:=z1i x;omega
 |succ n ih=>
  intro l hl hn;refine q8b B l (by have:=z0b z0i l z1i;omega) fun x hx=>?_
  have h1:=z0g z0i l x hx;have h2:=z0r x;exact⟨ih x.l (by omega) (by omega),ih x.els (by omega) (by omega)⟩
theorem Sl.keepS{w w':World}{B:Nat}{l:List S}{v:Value}(h:Sl (RS w B) w B 4 l v)(hb:Below B w w'):Sl (RS w' B) w' B 4 l v:=
 h.keep (fun p hp=>hb.cell hp) (y1j _) (fun y _ cs=>RS.keep (fun p hp=>hb.cell hp) (y1j _) y cs)
theorem Ext.below{B:Nat}{w w':World}(h:Ext w w')(hB:B≤w.heap.size):Below B w w':=(Below.refl B w).trans (h.mono hB)
theorem j8s{A B C:Prop}:((False∨A)∨B)∨C↔C∨B∨A:=by
 constructor
 ·rintro(((h|h)|h)|h)
  ·exact h.elim
  ·exact .inr (.inr h)
  ·exact .inr (.inl h)
  ·exact .inl h
 ·rintro(h|h|h)
  ·exact .inr h
  ·exact .inl (.inr h)
  ·exact .inl (.inl (.inr h))
theorem j3k{C:ByteArray→Prop}{l:List S}{k:Nat}(hk:k<l.length):z9h C (l.take (k+1))↔z9h C (l.take k)∧lpS C l[k]:=by
 rw[List.take_succ_eq_append_getElem hk,q4c];simp[z9h]
theorem k7j{C:ByteArray→Prop}{l:List S}{k:Nat}(h:z9h C l):z9h C (l.take k):=by
 rw[←List.take_append_drop k l,q4c] at h;exact h.1
theorem j3q{C:ByteArray→Prop}{l:List Itm}{k:Nat}(hk:k<l.length):z7r C (l.take (k+1))↔z7r C (l.take k)∧inI C l[k]:=by
 rw[List.take_succ_eq_append_getElem hk,q4j];simp[z7r]
theorem k7m{C:ByteArray→Prop}{l:List Itm}{k:Nat}(h:z7r C l):z7r C (l.take k):=by
 rw[←List.take_append_drop k l,q4j] at h;exact h.1
def y0n(B:Nat)(l:List S):Prop:=∀(w:World) (v:Value) (fs:List Scp) (p:Option Addr),ScA w p fs→Sl (RS w B) w B 4 l v→B≤w.heap.size→(∀g,g∈fs→B≤g.m∧g.m<w.heap.size)→
 Calls Tryz.prog 141 #[.pointer p,v] w fun e w'=>(z9h (inC fs) l∧e=.returned (.tuple #[])∧Ext w w')∨(¬z9h (inC fs) l∧e=.panicked [q3p]∧Ext w w')
theorem j7u(B:Nat)(l:List S)(hln:l.length≤1000000000)(IH:∀x,x∈l→y0n B x.l):y0n B l:=by
 intro w v fs p hsc hS hB hmB;obtain⟨a,cap,rfl,hcap,hrow⟩:=hS;have HMB:=Hd hmB;have HIH:=Hd IH;have HSC0:=Hd hsc;clear hcap hmB IH hsc;go_enter func141,ntmps141;go_wp2_with fail
 go_loopw [9] (fun i wr=>∃k:Nat,k≤l.length∧i=.int .i64 k∧Ext w wr∧z9h (inC fs) (l.take k)) (fun i _=>l.length - (intOf i).toNat)
 case atStart=>exact⟨0,y1p _,rfl,y1g _,trivial⟩
 case round=>
  obtain⟨k,hk,rfl,hg,htk⟩:=hrel;by_cases hlt:k<l.length
  ·obtain⟨b,o,v0,v1,v2,v3,rfl,hbB,hR,hC,o0,o1,o2,o3⟩:=hrow.open4 hlt;have hbw:Below B w wr:=hg.below hB;obtain⟨d0,d1,d2,d3⟩:=(hC.below hbw hbB).get4;obtain⟨y2,y3,hcs,-,hl3⟩:=RS_iff.1 hR;simp only[List.cons.injEq,and_true] at hcs;obtain⟨rfl,rfl,rfl,rfl⟩:=hcs;have IHk:=Hd (HIH.o l[k] (y1l hlt));have HL3:=Hd (hl3.keepS hbw);have TS:=Hd (show z9h (inC fs) (l.take (k+1))↔lpS (inC fs) l[k] from⟨fun h=>((j3k hlt).1 h).2,fun h=>(j3k hlt).2 ⟨htk,h⟩⟩);have TE:=Hd (j9d (inC fs) l[k]);have PRE:=Hd (fun(hno:¬z9h (inC fs) (l.take (k+1)))=>(fun(h:z9h (inC fs) l)=>hno (k7j h):¬z9h (inC fs) l));have HG9:=Hd hg;have hBr:B≤wr.heap.size:=y1k hB hg.size;have hwr:=hg.size;have HS9:=Hd (HSC0.o.ext hg);clear hR hC hrow hl3 htk hg HIH hbw;generalize l[k]=x at*;obtain⟨Wb,Wc,hVb,⟨m0,m1,m2,m3⟩,⟨n0,n1,n2,n3⟩,hVc,hbc,hxc,hzc⟩:=varS wr (.int .i64 x.op) (.string x.name) v2 v3;obtain⟨ec,hec⟩:=y1h (y1g Wc);replace hVc:=hVc.trans hec;obtain⟨c0,c1,c2,c3⟩:=hbc.later4;have HXC:=Hd (hxc.trans ec.ext);have HSC:=Hd (HS9.o.ext (hxc.trans ec.ext));clear hbc hxc hzc hec;have hrc:=HXC.o.size;by_cases h6:x.op=6
   ·have te:=Hd (TS.o.trans (TE.o.trans ⟨fun h=>⟨h.1 h6,(z6l (fun s=>by simp[h6]) x.l).1 h.2⟩,fun(h:¬inC fs x.name∧z9h (fun s=>inC fs s∨s=x.name) x.l)=>⟨fun _=>h.1,(z6l (fun s=>by simp[h6]) x.l).2 h.2⟩⟩));clear TS TE;generalize hop:x.op=op at*;subst h6;go_wp2_with fail
    go_at_call 93;refine(z6f ec.w p _ HSC.o (fun g hgm=>by have:=(HMB.o g hgm).2;omega)).mono ?_;rintro _ w1 ⟨b1,q1,rfl,hs1,hx1,hm1,hm1'⟩;obtain⟨e1,rfl⟩:=y1h (ec.ext.trans hx1);have S1:=Hd hs1;have X1:=Hd (HXC.o.trans hx1);clear hs1 hx1;go_wp2_with fail
    go_at_call 94;refine(z4l e1.w _ _ _ x.name S1.o).mono ?_;rintro _ w2 (⟨hn,rfl,hs2,hg2⟩|⟨hc,rfl,rfl⟩);rotate_left
    ·have NO:=Hd (PRE.o (fun hk2=>(te.o.1 hk2).1 (((inC_cons.1 hc)).resolve_left (fun h=>h))));have R2:=Hd (HG9.o.trans X1.o);clear hc;go_wp2_with fail
     exact⟨rfl,.inr ⟨NO.o,rfl,R2.o⟩⟩
    replace hg2:e1.w.grownBy w2 (some q1):=hg2;have hx2:Ext wr w2:=z4y X1.o hg2 (by omega);have hx2c:Ext Wc w2:=z4y e1.ext hg2 (by have:=ec.ext.size;omega);obtain⟨e2,rfl⟩:=y1h hx2c;have hsz2:=hg2.size;have S2:=Hd hs2;have X2:=Hd hx2;have HN:=Hd (fun(h:inC fs x.name)=>hn (inC_cons.2 (.inr h)));clear hs2 hg2 hx2 hx2c hn;go_wp2_with fail
    go_at_call 141;refine(IHk.o e2.w v3 _ _ S2.o (HL3.o.keepS (X2.o.below hBr)) (y1k hBr X2.o.size) (fun g hgm=>by
     rcases List.mem_cons.1 hgm with rfl|hgm
     ·exact⟨by show B≤q1;omega,by show q1<_;omega⟩
     ·have:=HMB.o g hgm;exact⟨this.1,by have:=X2.o.size;omega⟩)).mono ?_
    rintro _ w3 (⟨hok,rfl,hx3⟩|⟨hno,rfl,hx3⟩)
    ·have TK:=Hd (te.o.2 ⟨HN.o,(z6l (fun s=>by rw[inC_cons];simp[or_comm]) x.l).1 hok⟩);have R2:=Hd (HG9.o.trans (X2.o.trans hx3));clear hok hx3;go_wp2_with fail
     go_roundw;case rel=>exact⟨k+1,by omega,by go_num,R2.o,TK.o⟩
     case measure=>simp[intOf];omega
    ·have NO:=Hd (PRE.o (fun hk2=>hno ((z6l (fun s=>by rw[inC_cons];simp[or_comm]) x.l).2 (te.o.1 hk2).2)));have R2:=Hd (HG9.o.trans (X2.o.trans hx3));clear hno hx3;go_wp2_with fail
     exact⟨rfl,.inr ⟨NO.o,rfl,R2.o⟩⟩
   ·have te:=Hd (TS.o.trans (TE.o.trans ⟨fun h=>(z6l (fun s=>by simp[h6]) x.l).1 h.2,fun(h:z9h (inC fs) x.l)=>⟨fun e=>absurd e h6,(z6l (fun s=>by simp[h6]) x.l).2 h⟩⟩));have e6:(x.op==6)=false:=by simpa using h6
    clear TS TE h6;generalize x.op=op at*;go_wp2_with fail
    go_at_call 141;refine(IHk.o ec.w v3 _ _ HSC.o (HL3.o.keepS (HXC.o.below hBr)) (y1k hBr HXC.o.size) (fun g hgm=>by have:=HMB.o g hgm;exact⟨this.1,by omega⟩)).mono ?_;rintro _ w3 (⟨hok,rfl,hx3⟩|⟨hno,rfl,hx3⟩)
    ·have TK:=Hd (te.o.2 hok);have R2:=Hd (HG9.o.trans (HXC.o.trans hx3));clear hok hx3;go_wp2_with fail
     go_roundw;case rel=>exact⟨k+1,by omega,by go_num,R2.o,TK.o⟩
     case measure=>simp[intOf];omega
    ·have NO:=Hd (PRE.o (fun hk2=>hno (te.o.1 hk2)));have R2:=Hd (HG9.o.trans (HXC.o.trans hx3));clear hno hx3;go_wp2_with fail
     exact⟨rfl,.inr ⟨NO.o,rfl,R2.o⟩⟩
  ·have hkl:k=l.length:=by omega
   subst hkl;rw[List.take_length] at htk;have FIN:=Hd (y1x htk hg);clear htk hg;go_wp2_with fail
   go_end0
   exact .inl ⟨FIN.o.1,rfl,FIN.o.2⟩
theorem k8w(B:Nat):∀(n:Nat) (l:List S),z0e z0p l≤n→n≤1000000000→y0n B l:=by
 intro n;induction n with
 |zero=>
  intro l hl hn;refine j7u B l (by have:=z0b z0p l z1o;omega) fun x hx=>?_
  have:=z0g z0p l x hx;have:=z1o x;omega
 |succ n ih=>
  intro l hl hn;refine j7u B l (by have:=z0b z0p l z1o;omega) fun x hx=>?_
  have h1:=z0g z0p l x hx;have h2:=z0w x;exact ih x.l (by omega) (by omega)
def y0p(B:Nat)(l:List Itm):Prop:=∀(w:World) (v:Value) (fs:List Scp) (p:Option Addr),ScA w p fs→Sl (RI w B) w B 9 l v→B≤w.heap.size→(∀g,g∈fs→B≤g.m∧g.m<w.heap.size)→
 Calls Tryz.prog 96 #[.pointer p,v] w fun e w'=>(z7r (inC fs) l∧e=.returned (.tuple #[])∧Ext w w')∨(¬z7r (inC fs) l∧e=.panicked [q3p]∧Ext w w')
theorem j9x(B:Nat)(l:List Itm)(hln:l.length≤1000000000)(IH:∀x,x∈l→y0n B x.s∧j0p B x.l∧y0p B x.l∧y0p B x.els):y0p B l:=by
 intro w v fs p hsc hS hB hmB;obtain⟨a,cap,rfl,hcap,hrow⟩:=hS;have HMB:=Hd hmB;have HIH:=Hd IH;have HSC0:=Hd hsc;clear hcap hmB IH hsc;go_enter func96,ntmps96;go_wp2_with fail
 go_loopw [9] (fun i wr=>∃k:Nat,k≤l.length∧i=.int .i64 k∧Ext w wr∧z7r (inC fs) (l.take k)) (fun i _=>l.length - (intOf i).toNat)
 case atStart=>exact⟨0,y1p _,rfl,y1g _,trivial⟩
 case round=>
  obtain⟨k,hk,rfl,hg,htk⟩:=hrel;by_cases hlt:k<l.length
  ·obtain⟨b,o,v0,v1,v2,v3,v4,v5,v6,v7,v8,rfl,hbB,hR,hC,o0,o1,o2,o3,o4,o5,o6,o7,o8⟩:=hrow.open9 hlt;have hbw:Below B w wr:=hg.below hB;obtain⟨d0,d1,d2,d3,d4,d5,d6,d7,d8⟩:=(hC.below hbw hbB).get9;obtain⟨y3,y4,y5,y6,y7,y8,hcs,-,hl4,hl5,hl6,-,-⟩:=RI_iff.1 hR;simp only[List.cons.injEq,and_true] at hcs;obtain⟨rfl,rfl,rfl,rfl,rfl,rfl,rfl,rfl,rfl⟩:=hcs;have IHk:=Hd (HIH.o l[k] (y1l hlt));have HL4:=Hd (hl4.keepS hbw);have HL5:=Hd (hl5.keepI hbw);have HL6:=Hd (hl6.keepI hbw);have te:=Hd (show z7r (inC fs) (l.take (k+1))↔_ from(⟨fun h=>((j3q hlt).1 h).2,fun h=>(j3q hlt).2 ⟨htk,h⟩⟩:z7r (inC fs) (l.take (k+1))↔inI (inC fs) l[k]).trans (j9y (inC fs) l[k]));have PRE:=Hd (fun(hno:¬z7r (inC fs) (l.take (k+1)))=>(fun(h:z7r (inC fs) l)=>hno (k7m h):¬z7r (inC fs) l));have HG9:=Hd hg;have hBr:B≤wr.heap.size:=y1k hB hg.size;have hwr:=hg.size;have HS9:=Hd (HSC0.o.ext hg);clear hR hC hrow hl4 hl5 hl6 htk hg HIH hbw;generalize l[k]=x at*;obtain⟨Wb,Wc,hVb,⟨m0,m1,m2,m3,m4,m5,m6,m7,m8⟩,⟨n0,n1,n2,n3,n4,n5,n6,n7,n8⟩,hVc,hbc,hxc,hzc⟩:=k8t wr (.int .i64 x.op) (.string x.name) (.string x.of) v3 v4 v5 v6 v7 v8;obtain⟨ec,hec⟩:=y1h (y1g Wc);replace hVc:=hVc.trans hec;obtain⟨c0,c1,c2,c3,c4,c5,c6,c7,c8⟩:=hbc.later9;have HXC:=Hd (hxc.trans ec.ext);have HSC:=Hd (HS9.o.ext (hxc.trans ec.ext));clear hbc hxc hzc hec;have hrc:=HXC.o.size;have hcc:=ec.ext.size;by_cases h8:x.op=8
   ·have H8:=Hd h8;generalize hop:x.op=op at*;subst h8;go_wp2_with fail
    go_at_call 141;refine(IHk.o.1 ec.w v4 _ _ HSC.o (HL4.o.keepS (HXC.o.below hBr)) (y1k hBr HXC.o.size) (fun g hgm=>by have:=HMB.o g hgm;exact⟨this.1,by have:=HXC.o.size;omega⟩)).mono ?_;rintro _ w1 (⟨ok1,rfl,hx1⟩|⟨hno,rfl,hx1⟩);rotate_left
    ·have NO:=Hd (PRE.o (fun hk2=>hno ((te.o.1 hk2).1)));have R2:=Hd (HG9.o.trans (HXC.o.trans hx1));clear hno hx1;go_wp2_with fail
     exact⟨rfl,.inr ⟨NO.o,rfl,R2.o⟩⟩
    obtain⟨e1,rfl⟩:=y1h (ec.ext.trans hx1);have X1:=Hd (HXC.o.trans hx1);have SC1:=Hd (HS9.o.ext X1.o);have OK1:=Hd ok1;clear ok1 hx1;go_wp2_with fail
    go_at_call 96;refine(IHk.o.2.2.1 e1.w v5 _ _ SC1.o (HL5.o.keepI (X1.o.below hBr)) (y1k hBr X1.o.size) (fun g hgm=>by have:=HMB.o g hgm;exact⟨this.1,by have:=X1.o.size;omega⟩)).mono ?_;rintro _ w2 (⟨ok2,rfl,hx2⟩|⟨hno,rfl,hx2⟩);rotate_left
    ·have NO:=Hd (PRE.o (fun hk2=>hno (((te.o.1 hk2).2.1 (by first|trivial|rfl|exact hop)).1)));have R2:=Hd (HG9.o.trans (X1.o.trans hx2));clear hno hx2;go_wp2_with fail
     exact⟨rfl,.inr ⟨NO.o,rfl,R2.o⟩⟩
    obtain⟨e2,rfl⟩:=y1h (e1.ext.trans hx2);have X2:=Hd (X1.o.trans hx2);have SC2:=Hd (HS9.o.ext X2.o);have OK2:=Hd ok2;clear ok2 hx2;go_wp2_with fail
    go_at_call 96;refine(IHk.o.2.2.2 e2.w v6 _ _ SC2.o (HL6.o.keepI (X2.o.below hBr)) (y1k hBr X2.o.size) (fun g hgm=>by have:=HMB.o g hgm;exact⟨this.1,by have:=X2.o.size;omega⟩)).mono ?_;rintro _ w3 (⟨ok3,rfl,hx3⟩|⟨hno,rfl,hx3⟩);rotate_left
    ·have NO:=Hd (PRE.o (fun hk2=>hno (((te.o.1 hk2).2.1 (by first|trivial|rfl|exact hop)).2)));have R2:=Hd (HG9.o.trans (X2.o.trans hx3));clear hno hx3;go_wp2_with fail
     exact⟨rfl,.inr ⟨NO.o,rfl,R2.o⟩⟩
    have R2:=Hd (HG9.o.trans (X2.o.trans hx3));have TK:=Hd (te.o.2 ⟨OK1.o,fun _=>⟨OK2.o,ok3⟩,fun h=>absurd h (by first|decide|(rw[hop];decide))⟩);clear ok3 hx3;go_wp2_with fail
    go_roundw;case rel=>exact⟨k+1,by omega,by go_num,R2.o,TK.o⟩
    case measure=>simp[intOf];omega
   ·by_cases h9:x.op=9
    ·generalize hop:x.op=op at*;subst h9;have e8:((9:Int)==8)=false:=rfl;go_wp2_with fail
     go_at_call 141;refine(IHk.o.1 ec.w v4 _ _ HSC.o (HL4.o.keepS (HXC.o.below hBr)) (y1k hBr HXC.o.size) (fun g hgm=>by have:=HMB.o g hgm;exact⟨this.1,by have:=HXC.o.size;omega⟩)).mono ?_;rintro _ w1 (⟨ok1,rfl,hx1⟩|⟨hno,rfl,hx1⟩);rotate_left
     ·have NO:=Hd (PRE.o (fun hk2=>hno ((te.o.1 hk2).1)));have R2:=Hd (HG9.o.trans (HXC.o.trans hx1));clear hno hx1;go_wp2_with fail
      exact⟨rfl,.inr ⟨NO.o,rfl,R2.o⟩⟩
     obtain⟨e1,rfl⟩:=y1h (ec.ext.trans hx1);have X1:=Hd (HXC.o.trans hx1);have SC1:=Hd (HS9.o.ext X1.o);have OK1:=Hd ok1;have hs1z:=hx1.size;clear ok1 hx1;go_wp2_with fail
     go_at_call 93;refine(z6f e1.w p _ SC1.o (fun g hgm=>by have:=(HMB.o g hgm).2;omega)).mono ?_;rintro _ w2 ⟨b1,q1,rfl,hs2,hx2,hm1,hm1'⟩;obtain⟨e2,rfl⟩:=y1h (e1.ext.trans hx2);have S2:=Hd hs2;have X2:=Hd (X1.o.trans hx2);clear hs2 hx2;go_wp2_with fail
     go_at_call 94;refine(z4l e2.w _ _ _ x.of S2.o).mono ?_;rintro _ w3 (⟨hn,rfl,hs3,hg3⟩|⟨hc,rfl,rfl⟩);rotate_left
     ·have NO:=Hd (PRE.o (fun hk2=>((te.o.1 hk2).2.2 (by first|trivial|rfl|exact hop)).2.2.1 x.of (.inr rfl) (((inC_cons.1 hc)).resolve_left (fun h=>h))));have R2:=Hd (HG9.o.trans X2.o);clear hc;go_wp2_with fail
      exact⟨rfl,.inr ⟨NO.o,rfl,R2.o⟩⟩
     replace hg3:e2.w.grownBy w3 (some q1):=hg3;have hx3:Ext wr w3:=z4y X2.o hg3 (by omega);have hx3c:Ext Wc w3:=z4y e2.ext hg3 (by omega);obtain⟨e3,rfl⟩:=y1h hx3c;have hsz3:=hg3.size;have S3:=Hd hs3;have X3:=Hd hx3;have HN:=Hd (fun(h:inC fs x.of)=>hn (inC_cons.2 (.inr h)));clear hs3 hg3 hx3 hx3c hn;go_wp2_with fail
     go_at_call 95;refine(IHk.o.2.1 e3.w v5 _ _ _ S3.o (HL5.o.keepI (X3.o.below hBr)) (y1k hBr X3.o.size) (fun g hgm=>by
      rcases List.mem_cons.1 hgm with rfl|hgm
      ·exact⟨by show B≤q1;omega,by show q1<_;omega⟩
      ·have:=HMB.o g hgm;exact⟨this.1,by have:=X3.o.size;omega⟩)).mono ?_
     rintro _ w4 (⟨ok4,rfl,hs4,hg4⟩|⟨hno,rfl,hg4⟩)<;>replace hg4:e3.w.grownBy w4 (some q1):=hg4;rotate_left
     ·have hx4:Ext wr w4:=z4y X3.o hg4 (by omega);have NO:=Hd (PRE.o (fun hk2=>hno (by
       obtain⟨h1,h2,h3,-⟩:=(te.o.1 hk2).2.2 (by first|trivial|rfl|exact hop);refine⟨h1.1,h1.2,fun s hs hc=>?_⟩;rcases inC_cons.1 hc with(hc|hc)|hc
       ·exact hc
       ·exact h2 (by rw[←show s=x.of from hc];exact hs)
       ·exact h3 s (.inl hs) hc)))
      have R2:=Hd (HG9.o.trans hx4);clear hno hg4 hx4;go_wp2_with fail
      exact⟨rfl,.inr ⟨NO.o,rfl,R2.o⟩⟩
     have hx4:Ext wr w4:=z4y X3.o hg4 (by omega);have hx4c:Ext Wc w4:=z4y e3.ext hg4 (by omega);obtain⟨e4,rfl⟩:=y1h hx4c;have hsz4:=hg4.size;have S4:=Hd hs4;have X4:=Hd hx4;have OK4:=Hd ok4;clear hs4 hg4 hx4 hx4c ok4;go_wp2_with fail
     go_at_call 96;refine(IHk.o.2.2.1 e4.w v5 _ _ S4.o (HL5.o.keepI (X4.o.below hBr)) (y1k hBr X4.o.size) (fun g hgm=>by
      rcases List.mem_cons.1 hgm with rfl|hgm
      ·exact⟨by show B≤q1;omega,by show q1<_;omega⟩
      ·have:=HMB.o g hgm;exact⟨this.1,by have:=X4.o.size;omega⟩)).mono ?_
     rintro _ w5 (⟨ok5,rfl,hx5⟩|⟨hno,rfl,hx5⟩);rotate_left
     ·have NO:=Hd (PRE.o (fun hk2=>hno ((z8l (fun s=>inC_cons.trans j8s) x.l).2 ((te.o.1 hk2).2.2 (by first|trivial|rfl|exact hop)).2.2.2)));have R2:=Hd (HG9.o.trans (X4.o.trans hx5));clear hno hx5;go_wp2_with fail
      exact⟨rfl,.inr ⟨NO.o,rfl,R2.o⟩⟩
     have FOR:=Hd (show k8v x.l∧¬x.of∈z1u x.l∧(∀t,t∈z1u x.l∨t=x.of→¬inC fs t)∧z7r (fun t=>inC fs t∨t∈z1u x.l∨t=x.of) x.l from
      ⟨⟨OK4.o.1,OK4.o.2.1⟩,fun h=>OK4.o.2.2 _ h (inC_cons.2 (.inl (.inr rfl))),fun t ht=>by
       rcases ht with ht|ht
       ·exact fun hc=>OK4.o.2.2 t ht (inC_cons.2 (.inr hc))
       ·rw[ht];exact HN.o,(z8l (fun s=>inC_cons.trans j8s) x.l).1 ok5⟩)
     have R2:=Hd (HG9.o.trans (X4.o.trans hx5));have TK:=Hd (te.o.2 ⟨OK1.o,fun h=>absurd h (by first|decide|(rw[hop];decide)),fun _=>FOR.o⟩);clear ok5 hx5;go_wp2_with fail
     go_roundw;case rel=>exact⟨k+1,by omega,by go_num,R2.o,TK.o⟩
     case measure=>simp[intOf];omega
    ·have e8:(x.op==8)=false:=by simpa using h8
     have e9:(x.op==9)=false:=by simpa using h9
     have H8:=Hd h8;have H9:=Hd h9;clear h8 h9;generalize x.op=op at*;go_wp2_with fail
     go_at_call 141;refine(IHk.o.1 ec.w v4 _ _ HSC.o (HL4.o.keepS (HXC.o.below hBr)) (y1k hBr HXC.o.size) (fun g hgm=>by have:=HMB.o g hgm;exact⟨this.1,by have:=HXC.o.size;omega⟩)).mono ?_;rintro _ w1 (⟨ok1,rfl,hx1⟩|⟨hno,rfl,hx1⟩);rotate_left
     ·have NO:=Hd (PRE.o (fun hk2=>hno ((te.o.1 hk2).1)));have R2:=Hd (HG9.o.trans (HXC.o.trans hx1));clear hno hx1;go_wp2_with fail
      exact⟨rfl,.inr ⟨NO.o,rfl,R2.o⟩⟩
     obtain⟨e1,rfl⟩:=y1h (ec.ext.trans hx1);have R2:=Hd (HG9.o.trans (HXC.o.trans hx1));have TK:=Hd (te.o.2 ⟨ok1,fun h=>absurd h H8.o,fun h=>absurd h H9.o⟩);clear ok1 hx1;go_wp2_with fail
     go_roundw;case rel=>exact⟨k+1,by omega,by go_num,R2.o,TK.o⟩
     case measure=>simp[intOf];omega
  ·have hkl:k=l.length:=by omega
   subst hkl;rw[List.take_length] at htk;have FIN:=Hd (y1x htk hg);clear htk hg;go_wp2_with fail
   go_end0
   exact .inl ⟨FIN.o.1,rfl,FIN.o.2⟩
theorem k7r(B:Nat):∀(n:Nat) (l:List Itm),z0e z0i l≤n→n≤1000000000→y0p B l:=by
 intro n;induction n with
 |zero=>
  intro l hl hn;refine j9x B l (by have:=z0b z0i l z1i;omega) fun x hx=>?_
  have:=z0g z0i l x hx;have:=z1i x;omega
 |succ n ih=>
  intro l hl hn;refine j9x B l (by have:=z0b z0i l z1i;omega) fun x hx=>?_
  have h1:=z0g z0i l x hx;have h2:=z0r x;exact⟨k8w B n x.s (by omega) (by omega),q8c B n x.l (by omega) (by omega),ih x.l (by omega) (by omega),ih x.els (by omega) (by omega)⟩
end Go.Proofs.YtlfmlodanoolhaaGreatDoor

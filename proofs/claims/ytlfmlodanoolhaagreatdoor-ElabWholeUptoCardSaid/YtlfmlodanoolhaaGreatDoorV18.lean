import Derived.Test.YtlfmlodanoolhaaGreatDoorV16
import Derived.Test.YtlfmlodanoolhaaGreatDoorV10
set_option linter.all false
set_option maxRecDepth 200000
set_option maxHeartbeats 0
namespace Go.Proofs.YtlfmlodanoolhaaGreatDoor
open Go Go.RowKit Go.Proofs.Tryz
attribute [local go_sem] bc
def TOK(C:ByteArray->Prop)(l:List Itm):Prop:=cN l/\(ap l).Nodup/\∀s,s∈ap l->¬C s
theorem tg(C:ByteArray->Prop):TOK C []:=⟨trivial,by simp[ap],λs a=>by cases a⟩
theorem rc(x:Itm):ap [x]=tnI x:=by simp[ap]
theorem zb(x:Itm):cN [x]↔fm x:=by simp[cN]
theorem uA{C:ByteArray->Prop}{l:List Itm}{x:Itm}:TOK C (l++[x])↔TOK C l/\fm x/\(tnI x).Nodup/\∀s,s∈tnI x->¬C s/\¬s∈ap l:=by
 unfold TOK;rw[pt,zb,jt,rc,List.nodup_append];constructor
 ·rintro⟨⟨f,g⟩,⟨h,i,c⟩,d⟩;exact⟨⟨f,h,λs a=>d s (List.mem_append_left _ a)⟩,g,i,λs a=>⟨d s (List.mem_append_right _ a),λb=>c s b s a rfl⟩⟩
 ·rintro⟨⟨f,h,d⟩,g,i,c⟩;refine⟨⟨f,g⟩,⟨h,i,λm ha j k e=>(c j k).2 (e▸ha)⟩,λs a=>?_⟩;rcases y8e.1 a with b|b
  ·exact d s b
  ·exact(c s b).1
theorem th{C:ByteArray->Prop}{l:List Itm}{k:Nat}(h:TOK C l):TOK C (l.take k):=by
 have d:=List.take_append_drop k l;rw[<-d] at h;obtain⟨b,a,c⟩:=h;exact⟨(pt _ _).1 b|>.1,by rw[jt] at a;exact(List.nodup_append.1 a).1,λs e=>c s (by rw[jt];exact List.mem_append_left _ e)⟩
theorem lv{C:ByteArray->Prop}{l:List Itm}{k:Nat}(a:k<l.length):TOK C (l.take (k+1))↔TOK C (l.take k)/\fm l[k]/\(tnI l[k]).Nodup/\∀s,s∈tnI l[k]->¬C s/\¬s∈ap (l.take k):=by
 rw[List.take_succ_eq_append_getElem a,uA]
theorem ur{l:List Itm}{k:Nat}(a:k<l.length):ap (l.take (k+1))=ap (l.take k)++tnI l[k]:=by rw[List.take_succ_eq_append_getElem a,jt,rc]
theorem uv{C:ByteArray->Prop}{l:List Itm}{k:Nat}(g:k<l.length)(b:cy l[k].op)(h:TOK C (l.take k)):TOK C (l.take (k+1))↔¬(C l[k].name\/l[k].name∈ap (l.take k)):=by
 rw[lv g,gb,if_pos b];have f:l[k].op≠8:=by unfold cy at b;omega
 constructor
 ·rintro⟨-,-,-,h⟩ a;rcases a with a|a
  ·exact(h _ zS).1 a
  ·exact(h _ zS).2 a
 ·intro c;exact⟨h,(jK _).2 (λe=>absurd e f),zS,λs d=>by simp at d;subst d;exact⟨λa=>c (.inl a),λa=>c (.inr a)⟩⟩
theorem sL{C:ByteArray->Prop}{l:List Itm}{k:Nat}(o:k<l.length)(m:l[k].op=8)(h:TOK C (l.take k)):TOK C (l.take (k+1))↔TOK (λs=>C s\/s∈ap (l.take k)) l[k].l/\TOK (λs=>C s\/s∈ap (l.take k)) l[k].els:=by
 rw[lv o,gb,if_neg (by unfold cy;omega),if_pos m,jK];constructor
 ·rintro⟨-,n,-,j⟩;obtain⟨⟨d,c⟩,e,f⟩:=n m;refine⟨⟨d,c,λs b a=>?_⟩,⟨e,f,λs b a=>?_⟩⟩
  ·have:=j s ((fM _ _).2 (.inl b));exact a.elim this.1 this.2
  ·have:=j s ((fM _ _).2 (.inr b));exact a.elim this.1 this.2
 ·rintro⟨⟨d,c,g⟩,e,f,i⟩;refine⟨h,λ_=>⟨⟨d,c⟩,e,f⟩,Ar _ _ c,λs b=>?_⟩;rcases(fM _ _).1 b with b|b
  ·exact⟨λa=>g s b (.inl a),λa=>g s b (.inr a)⟩
  ·exact⟨λa=>i s b (.inl a),λa=>i s b (.inr a)⟩
theorem uw{C:ByteArray->Prop}{l:List Itm}{k:Nat}(f:k<l.length)(d:¬cy l[k].op)(b:l[k].op≠8)(h:TOK C (l.take k)):TOK C (l.take (k+1))/\tnI l[k]=[]:=by
 have a:tnI l[k]=[]:=by rw[gb,if_neg d,if_neg b]
 refine⟨(lv f).2 ⟨h,(jK _).2 (λe=>absurd e b),by rw[a];simp,λs c=>by rw[a] at c;cases c⟩,a⟩
theorem Cells.below{w c:World}{B b o:Nat}{a:List Value}(h:Cells w b o a)(f:Below B w c)(d:b<B):Cells c b o a:=λg v e=>(f.cell d).trans (h g v e)
theorem vK{w a:World}{m B:Nat}(c:w.grownBy a (some m))(d:B<=m)(b:B<=w.heap.size):Below B w a:=(Below.refl B w).grown c b (λf e=>by cases e;exact d)
theorem rA{a b c:World}{m i:Nat}(h:a.grownBy b (some m))(k:b.grownBy c (some i))(hi:a.heap.size<=i):a.grownBy c (some m):=
 ⟨k.os.trans h.os,k.tape.trans h.tape,k.output.trans h.output,ad h.size k.size,λf d g=>(k.block f (aQ d h.size) (λe=>by injection e with e;omega)).trans (h.block f d g)⟩
theorem enters_tell:Enters Tryz.prog 94:=⟨λ_ _=>by kernel_rfl⟩
def jf(B:Nat)(l:List Itm):Prop:=∀(w:World) (v:Value) (a:Scp) (b:List Scp) (d:Option Addr),ScA w d (a::b)->Sl (RI w B) w B 9 l v->B<=w.heap.size->(∀c,c∈a::b->B<=c.m/\c.m<w.heap.size)->
 Calls Tryz.prog 95 #[.pointer d,v] w λe f=>
  (TOK (inC (a::b)) l/\e=.returned (.tuple #[])/\ScA f d ({a with N:=λg=>a.N g\/g∈ap l}::b)/\w.grownBy f (some a.m))\/(¬TOK (inC (a::b)) l/\e=.panicked [gy]/\w.grownBy f (some a.m))
theorem Sl.keepI{w b:World}{B:Nat}{l:List Itm}{v:Value}(h:Sl (RI w B) w B 9 l v)(c:Below B w b):Sl (RI b B) b B 9 l v:=
 h.keep (λe a=>c.cell a) (ac _) (λf _ d=>RI.keep (λe a=>c.cell a) (ac _) f d)
theorem rV(B:Nat)(l:List Itm)(x9:l.length<=1000000000)(l3:∀x,x∈l->jf B x.l/\jf B x.els):jf B l:=by
 intro w v f r t o5 m3 m0 i5;have f6:=underlying119;have p6:=Hd m3;obtain⟨v2,w2,rfl,q4,n8⟩:=m3;have d3:=i5 f (cc ..);have e5:=Hd i5;have l2:=Hd l3;have y0:=@hmf_ Tryz.prog;have x5:=enters_tell.o;clear q4 i5 l3;have j2:=Hd (o5.congr (N':=λc=>f.N c\/c∈ap (l.take 0)) (λs=>by simp[ap]));clear o5;go_enter func95,ntmps95;go_wp2_with fail
 go_loopw [16] (λW wr=>∃g:Nat,g<=l.length/\W=.int .i64 g/\ScA wr t ({f with N:=λc=>f.N c\/c∈ap (l.take g)}::r)/\w.grownBy wr (some f.m)/\TOK (inC (f::r)) (l.take g)) (λW _=>l.length - (intOf W).toNat)
 case atStart=>exact⟨0,aA _,rfl,j2.o,cp (af w),by rw[List.take_zero];exact tg _⟩
 case round=>
  obtain⟨g,x8,rfl,M,d4,b8⟩:=hrel;by_cases c3:g<l.length
  ·obtain⟨v3,o,B4,B5,B6,t6,t7,p2,p3,t8,t9,rfl,q3,m2,m1,A6,A7,A8,A9,B0,B1,B2,B3,g3⟩:=n8.open9 c3;have f8:Below B w wr:=vK d4 d3.1 m0;obtain⟨w3,w4,w5,w6,w7,w8,w9,x0,x1⟩:=(m1.below f8 q3).get9;obtain⟨B8,B9,C0,C1,C2,C3,g0,-,-,n2,n3,-,-⟩:=RI_iff.1 m2;simp only[List.cons.injEq,and_true] at g0;obtain⟨rfl,rfl,rfl,rfl,rfl,rfl,rfl,rfl,rfl⟩:=g0;have c8:=Hd (l2.o l[g] (an c3));have e3:=Hd (n2.keepI f8);have e4:=Hd (n3.keepI f8);have e9:=Hd (λH=>uv c3 H b8);have f0:=Hd (λU=>sL c3 U b8);have f1:=Hd (λH U=>uw c3 H U b8);have c2:=Hd (ur c3);have c9:=Hd (gb l[g]);have a7:=Hd (λ(r5:¬TOK (inC (f::r)) (l.take (g+1)))=>(λ(d:TOK (inC (f::r)) l)=>r5 (th d):¬TOK (inC (f::r)) l));have e6:=Hd M;have n:=Hd d4;clear m2 m1 n8 n2 n3 b8 M d4 l2 p6 j2;have f5:B<=wr.heap.size:=ad m0 n.o.size;generalize l[g]=x at*;obtain⟨v1,f2,x3,⟨y8,y9,z0,z1,z2,z3,z4,z5,z6⟩,⟨z7,z8,z9,A0,A1,A2,A3,A4,A5⟩,m4,m8,j8,s8⟩:=iJ wr (.int .i64 x.op) (.string x.name) (.string x.of) t6 t7 p2 p3 t8 t9;obtain⟨ec,n0⟩:=ae (af f2);replace m4:=m4.trans n0;obtain⟨f3,v4,v5,v6,v7,v8,v9,w0,w1⟩:=m8.later9;have y:=Hd (j8.trans ec.ext);have a3:=Hd (e6.o.ext (j8.trans ec.ext));clear m8 j8 s8 f8 n0;by_cases H:cy x.op
   ·have R:=Hd (e9.o H);have a2:=Hd (c2.o.trans (by rw[c9.o,if_pos H]));clear e9 f0 f1 c2 c9 c8 e3 e4;unfold cy at H;rcases H with d|d|d|d|d|d
    ·have i:x.op=1:=d;have X:(x.op==1)=true:=by rw[i];rfl
     clear d;generalize x.op=op at*;subst i;go_wp2_with fail
     refine(eV ec.w _ r t x.name a3.o).mono ?_;rintro e c0 (⟨C,rfl,p,z⟩|⟨a,rfl,rfl⟩)
     ·have A:∀s,(f.N s\/s∈ap (l.take g))\/s=x.name↔f.N s\/s∈ap (l.take (g+1)):=λs=>by rw[a2.o,List.mem_append,List.mem_singleton,or_assoc]
      have I:=Hd (R.o.2 (λa=>C (inC_cons.2 (by
       rcases a with a|a
       ·rcases inC_cons.1 a with a|a
        ·exact .inl (.inl a)
        ·exact .inr a
       ·exact .inl (.inr a)))))
      have G:=Hd (p.congr A);have j:=Hd (bV (bV n.o (cp y.o)) z);clear C p z A;go_wp2_with fail
      go_roundw;case rel=>exact⟨g+1,zO,zN,G.o,j.o,I.o⟩
      case measure=>simp[intOf];omega
     ·have E:=Hd (a7.o (λF=>R.o.1 F (by
       rcases inC_cons.1 a with(a|a)|a
       ·exact .inl (inC_cons.2 (.inl a))
       ·exact .inr a
       ·exact .inl (inC_cons.2 (.inr a)))))
      have j:=Hd (bV n.o (cp y.o));clear a;go_wp2_with fail
      exact⟨rfl,.inr ⟨E.o,rfl,j.o⟩⟩
    ·have i:x.op=2:=d;have X:(x.op==1)=false:=by rw[i];rfl
     have J:(x.op==2)=true:=by rw[i];rfl
     clear d;generalize x.op=op at*;subst i;go_wp2_with fail
     refine(eV ec.w _ r t x.name a3.o).mono ?_;rintro e c0 (⟨C,rfl,p,z⟩|⟨a,rfl,rfl⟩)
     ·have A:∀s,(f.N s\/s∈ap (l.take g))\/s=x.name↔f.N s\/s∈ap (l.take (g+1)):=λs=>by rw[a2.o,List.mem_append,List.mem_singleton,or_assoc]
      have I:=Hd (R.o.2 (λa=>C (inC_cons.2 (by
       rcases a with a|a
       ·rcases inC_cons.1 a with a|a
        ·exact .inl (.inl a)
        ·exact .inr a
       ·exact .inl (.inr a)))))
      have G:=Hd (p.congr A);have j:=Hd (bV (bV n.o (cp y.o)) z);clear C p z A;go_wp2_with fail
      go_roundw;case rel=>exact⟨g+1,zO,zN,G.o,j.o,I.o⟩
      case measure=>simp[intOf];omega
     ·have E:=Hd (a7.o (λF=>R.o.1 F (by
       rcases inC_cons.1 a with(a|a)|a
       ·exact .inl (inC_cons.2 (.inl a))
       ·exact .inr a
       ·exact .inl (inC_cons.2 (.inr a)))))
      have j:=Hd (bV n.o (cp y.o));clear a;go_wp2_with fail
      exact⟨rfl,.inr ⟨E.o,rfl,j.o⟩⟩
    ·have i:x.op=3:=d;have X:(x.op==1)=false:=by rw[i];rfl
     have J:(x.op==2)=false:=by rw[i];rfl
     have Y:(x.op==3)=true:=by rw[i];rfl
     clear d;generalize x.op=op at*;subst i;go_wp2_with fail
     refine(eV ec.w _ r t x.name a3.o).mono ?_;rintro e c0 (⟨C,rfl,p,z⟩|⟨a,rfl,rfl⟩)
     ·have A:∀s,(f.N s\/s∈ap (l.take g))\/s=x.name↔f.N s\/s∈ap (l.take (g+1)):=λs=>by rw[a2.o,List.mem_append,List.mem_singleton,or_assoc]
      have I:=Hd (R.o.2 (λa=>C (inC_cons.2 (by
       rcases a with a|a
       ·rcases inC_cons.1 a with a|a
        ·exact .inl (.inl a)
        ·exact .inr a
       ·exact .inl (.inr a)))))
      have G:=Hd (p.congr A);have j:=Hd (bV (bV n.o (cp y.o)) z);clear C p z A;go_wp2_with fail
      go_roundw;case rel=>exact⟨g+1,zO,zN,G.o,j.o,I.o⟩
      case measure=>simp[intOf];omega
     ·have E:=Hd (a7.o (λF=>R.o.1 F (by
       rcases inC_cons.1 a with(a|a)|a
       ·exact .inl (inC_cons.2 (.inl a))
       ·exact .inr a
       ·exact .inl (inC_cons.2 (.inr a)))))
      have j:=Hd (bV n.o (cp y.o));clear a;go_wp2_with fail
      exact⟨rfl,.inr ⟨E.o,rfl,j.o⟩⟩
    ·have i:x.op=7:=d;have X:(x.op==1)=false:=by rw[i];rfl
     have J:(x.op==2)=false:=by rw[i];rfl
     have Y:(x.op==3)=false:=by rw[i];rfl
     have f4:(x.op==7)=true:=by rw[i];rfl
     clear d;generalize x.op=op at*;subst i;go_wp2_with fail
     refine(eV ec.w _ r t x.name a3.o).mono ?_;rintro e c0 (⟨C,rfl,p,z⟩|⟨a,rfl,rfl⟩)
     ·have A:∀s,(f.N s\/s∈ap (l.take g))\/s=x.name↔f.N s\/s∈ap (l.take (g+1)):=λs=>by rw[a2.o,List.mem_append,List.mem_singleton,or_assoc]
      have I:=Hd (R.o.2 (λa=>C (inC_cons.2 (by
       rcases a with a|a
       ·rcases inC_cons.1 a with a|a
        ·exact .inl (.inl a)
        ·exact .inr a
       ·exact .inl (.inr a)))))
      have G:=Hd (p.congr A);have j:=Hd (bV (bV n.o (cp y.o)) z);clear C p z A;go_wp2_with fail
      go_roundw;case rel=>exact⟨g+1,zO,zN,G.o,j.o,I.o⟩
      case measure=>simp[intOf];omega
     ·have E:=Hd (a7.o (λF=>R.o.1 F (by
       rcases inC_cons.1 a with(a|a)|a
       ·exact .inl (inC_cons.2 (.inl a))
       ·exact .inr a
       ·exact .inl (inC_cons.2 (.inr a)))))
      have j:=Hd (bV n.o (cp y.o));clear a;go_wp2_with fail
      exact⟨rfl,.inr ⟨E.o,rfl,j.o⟩⟩
    ·have i:x.op=10:=d;have X:(x.op==1)=false:=by rw[i];rfl
     have J:(x.op==2)=false:=by rw[i];rfl
     have Y:(x.op==3)=false:=by rw[i];rfl
     have f4:(x.op==7)=false:=by rw[i];rfl
     have h8:(x.op==10)=true:=by rw[i];rfl
     clear d;generalize x.op=op at*;subst i;go_wp2_with fail
     refine(eV ec.w _ r t x.name a3.o).mono ?_;rintro e c0 (⟨C,rfl,p,z⟩|⟨a,rfl,rfl⟩)
     ·have A:∀s,(f.N s\/s∈ap (l.take g))\/s=x.name↔f.N s\/s∈ap (l.take (g+1)):=λs=>by rw[a2.o,List.mem_append,List.mem_singleton,or_assoc]
      have I:=Hd (R.o.2 (λa=>C (inC_cons.2 (by
       rcases a with a|a
       ·rcases inC_cons.1 a with a|a
        ·exact .inl (.inl a)
        ·exact .inr a
       ·exact .inl (.inr a)))))
      have G:=Hd (p.congr A);have j:=Hd (bV (bV n.o (cp y.o)) z);clear C p z A;go_wp2_with fail
      go_roundw;case rel=>exact⟨g+1,zO,zN,G.o,j.o,I.o⟩
      case measure=>simp[intOf];omega
     ·have E:=Hd (a7.o (λF=>R.o.1 F (by
       rcases inC_cons.1 a with(a|a)|a
       ·exact .inl (inC_cons.2 (.inl a))
       ·exact .inr a
       ·exact .inl (inC_cons.2 (.inr a)))))
      have j:=Hd (bV n.o (cp y.o));clear a;go_wp2_with fail
      exact⟨rfl,.inr ⟨E.o,rfl,j.o⟩⟩
    ·have i:x.op=9:=d;have X:(x.op==1)=false:=by rw[i];rfl
     have J:(x.op==2)=false:=by rw[i];rfl
     have Y:(x.op==3)=false:=by rw[i];rfl
     have f4:(x.op==7)=false:=by rw[i];rfl
     have h8:(x.op==10)=false:=by rw[i];rfl
     have l9:(x.op==9)=true:=by rw[i];rfl
     clear d;generalize x.op=op at*;subst i;go_wp2_with fail
     refine(eV ec.w _ r t x.name a3.o).mono ?_;rintro e c0 (⟨C,rfl,p,z⟩|⟨a,rfl,rfl⟩)
     ·have A:∀s,(f.N s\/s∈ap (l.take g))\/s=x.name↔f.N s\/s∈ap (l.take (g+1)):=λs=>by rw[a2.o,List.mem_append,List.mem_singleton,or_assoc]
      have I:=Hd (R.o.2 (λa=>C (inC_cons.2 (by
       rcases a with a|a
       ·rcases inC_cons.1 a with a|a
        ·exact .inl (.inl a)
        ·exact .inr a
       ·exact .inl (.inr a)))))
      have G:=Hd (p.congr A);have j:=Hd (bV (bV n.o (cp y.o)) z);clear C p z A;go_wp2_with fail
      go_roundw;case rel=>exact⟨g+1,zO,zN,G.o,j.o,I.o⟩
      case measure=>simp[intOf];omega
     ·have E:=Hd (a7.o (λF=>R.o.1 F (by
       rcases inC_cons.1 a with(a|a)|a
       ·exact .inl (inC_cons.2 (.inl a))
       ·exact .inr a
       ·exact .inl (inC_cons.2 (.inr a)))))
      have j:=Hd (bV n.o (cp y.o));clear a;go_wp2_with fail
      exact⟨rfl,.inr ⟨E.o,rfl,j.o⟩⟩
   ·by_cases U:x.op=8
    ·have k4:=Hd (f0.o U);have a2:=Hd (c2.o.trans (by rw[c9.o,if_neg H,if_pos U]));unfold cy at H;have X:(x.op==1)=false:=by simp;omega
     have J:(x.op==2)=false:=by simp;omega
     have Y:(x.op==3)=false:=by simp;omega
     have f4:(x.op==7)=false:=by simp;omega
     have h8:(x.op==10)=false:=by simp;omega
     have l9:(x.op==9)=false:=by simp;omega
     have q1:(x.op==8)=true:=by simpa using U
     clear e9 f0 f1 c2 c9 H U;generalize x.op=op at*;have v0:=e5;go_wp2_with fail
     go_at_call 93;refine(ix ec.w t _ a3.o (λk h=>by
      have Z:=n.o.size;have T:=y.o.size;rcases List.mem_cons.1 h with rfl|h
      ·have:=d3.2;show f.m<_;omega
      ·have:=(e5.o k (bi _ h)).2;omega)).mono ?_
     rintro _ c0 ⟨b2,O,rfl,p,g1,q9,r0⟩;have n9:ScA c0 t ({f with N:=λc=>f.N c\/c∈ap (l.take g)}::r):=a3.o.ext g1;obtain⟨X,rfl⟩:=ae (ec.ext.trans g1);have l5:=Hd p;have l6:=Hd n9;have h6:=Hd g1;clear p n9 g1;go_wp2_with fail
     go_at_call 93;refine(ix X.w t _ l6.o (λk h=>by
      have Z:=n.o.size;have T:=y.o.size;have a8:=h6.o.size;rcases List.mem_cons.1 h with rfl|h
      ·have:=d3.2;show f.m<_;omega
      ·have:=(e5.o k (bi _ h)).2;omega)).mono ?_
     rintro _ B7 ⟨b3,Q,rfl,o0,e0,r1,r2⟩;obtain⟨J,rfl⟩:=ae (X.ext.trans e0);have f7:Ext wr J.w:=(y.o.trans h6.o).trans e0;have m5:Below B wr J.w:=(Below.refl B wr).trans (f7.mono f5);have h3:=Hd o0;have e8:=Hd (l5.o.ext e0);have s2:=f7.size;have s3:=e0.size;have c1:=Hd f7;have l0:=Hd m5;have y4:wr.heap.size<=ec.w.heap.size:=y.o.size;have y6:f2.heap.size<=ec.w.heap.size:=ec.ext.size;have m9:∀k,k∈({f with N:=λc=>f.N c\/c∈ap (l.take g)}:Scp)::r->B<=k.m/\k.m<wr.heap.size:=λk h=>by
      have Z:=n.o.size;rcases List.mem_cons.1 h with rfl|h
      ·exact⟨d3.1,by show f.m<_;have:=d3.2;omega⟩
      ·have:=e5.o k (bi _ h);exact⟨this.1,zO⟩
     have b1:=Hd m9;clear o0 e0 f7 m5 m9;go_wp2_with fail
     go_at_call 95;refine(c8.o.1 J.w p2 ⟨b2,O,λ_=>False⟩ _ _ e8.o (e3.o.keepI l0.o) (ad f5 c1.o.size) (λk h=>by
      rcases List.mem_cons.1 h with rfl|h
      ·exact⟨by show B<=O;omega,by show O<_;omega⟩
      ·have:=b1.o k h;exact⟨this.1,zO⟩)).mono ?_
     rintro _ k6 (⟨n6,rfl,o2,V⟩|⟨n4,rfl,V⟩)<;>replace V:J.w.grownBy k6 (some O):=V;rotate_left
     ·have E:=Hd (a7.o (λF=>n4 (by
       have d:=(k4.o.1 F).1;refine⟨d.1,d.2.1,λs M a=>d.2.2 s M ?_⟩;rcases inC_cons.1 a with a|a
       ·exact a.elim
       ·rcases inC_cons.1 a with(a|a)|a
        ·exact .inl (inC_cons.2 (.inl a))
        ·exact .inr a
        ·exact .inl (inC_cons.2 (.inr a)))))
      have j:=Hd (bV n.o (cp (dy c1.o V zO)));clear n4 V;go_wp2_with fail
      exact⟨rfl,.inr ⟨E.o,rfl,j.o⟩⟩
     have q6:=V;have j6:Ext wr k6:=dy c1.o V zO;have o6:Ext f2 k6:=dy J.ext V zO;obtain⟨Y,rfl⟩:=ae o6;have m6:Below B wr Y.w:=(Below.refl B wr).trans (j6.mono f5);have o1:=h3.o.kept V (λW hi=>by
      cases hi;refine⟨λk h=>?_,gW e8.o.2.2.1⟩;rcases List.mem_cons.1 h with rfl|h
      ·show Q≠O;omega
      ·have:=b1.o k h;omega)
     have l7:=Hd o2;have h4:=Hd o1;have e7:=Hd j6;have l1:=Hd m6;have l4:=Hd n6;have s0:=V.size;clear o2 o1 j6 m6 o6 V n6 q6;go_wp2_with fail
     go_at_call 95;refine(c8.o.2 Y.w p3 ⟨b3,Q,λ_=>False⟩ _ _ h4.o (e4.o.keepI l1.o) (ad f5 e7.o.size) (λk h=>by
      rcases List.mem_cons.1 h with rfl|h
      ·exact⟨by show B<=Q;omega,by show Q<_;omega⟩
      ·have:=b1.o k h;exact⟨this.1,zO⟩)).mono ?_
     rintro _ k7 (⟨n7,rfl,o4,a0⟩|⟨n5,rfl,a0⟩)<;>replace a0:Y.w.grownBy k7 (some Q):=a0;rotate_left
     ·have E:=Hd (a7.o (λF=>n5 (by
       have d:=(k4.o.1 F).2;refine⟨d.1,d.2.1,λs M a=>d.2.2 s M ?_⟩;rcases inC_cons.1 a with a|a
       ·exact a.elim
       ·rcases inC_cons.1 a with(a|a)|a
        ·exact .inl (inC_cons.2 (.inl a))
        ·exact .inr a
        ·exact .inl (inC_cons.2 (.inr a)))))
      have j:=Hd (bV n.o (cp (dy e7.o a0 zO)));clear n5 a0;go_wp2_with fail
      exact⟨rfl,.inr ⟨E.o,rfl,j.o⟩⟩
     have p7:=Hd (k4.o.2 ⟨by
      obtain⟨Z,T,a8⟩:=l4.o;refine⟨Z,T,λs M a=>a8 s M (inC_cons.2 (.inr ?_))⟩;rcases a with a|a
      ·rcases inC_cons.1 a with a|a
       ·exact inC_cons.2 (.inl (.inl a))
       ·exact inC_cons.2 (.inr a)
      ·exact inC_cons.2 (.inl (.inr a)),by
      obtain⟨Z,T,a8⟩:=n7;refine⟨Z,T,λs M a=>a8 s M (inC_cons.2 (.inr ?_))⟩;rcases a with a|a
      ·rcases inC_cons.1 a with a|a
       ·exact inC_cons.2 (.inl (.inl a))
       ·exact inC_cons.2 (.inr a)
      ·exact inC_cons.2 (.inl (.inr a))⟩)
     have j7:Ext wr k7:=dy e7.o a0 zO;have o7:Ext f2 k7:=dy Y.ext a0 zO;obtain⟨b4,rfl⟩:=ae o7;have y5:=j7.size;have o3:=l7.o.kept a0 (λW hi=>by
      cases hi;refine⟨λk h=>?_,gW h4.o.2.2.1⟩;rcases List.mem_cons.1 h with rfl|h
      ·show O≠Q;omega
      ·have:=b1.o k h;omega)
     have s1:=a0.size;obtain⟨q,d1⟩:∃q,q=b4.w.alloc (.cells #[.pointer (some ⟨b2,0,none⟩),.pointer (some ⟨b3,0,none⟩)] 148):=⟨_,rfl⟩;have g2:Ext b4.w q:=by rw[d1];exact aE _ _
     have m7:Blk q b4.w.heap.size 148 [.pointer (some ⟨b2,0,none⟩),.pointer (some ⟨b3,0,none⟩)]:=by rw[d1];exact ax _ _ [_,_]
     have y7:q.heap.size=b4.w.heap.size+1:=by rw[d1];simp
     have x2:=d1.symm;obtain⟨-,g4,e1,-,t0,t1,g5,t2⟩:=o3.ext g2;replace g4:b2<q.heap.size:=g4;replace e1:SetB q O (λc=>False\/c∈ap x.l):=e1;replace g5:q.cell? ⟨b2,1,none⟩=some (.map (some O)):=g5;obtain⟨-,g6,e2,-,t3,t4,g7,t5⟩:=o4.ext g2;replace g6:b3<q.heap.size:=g6;replace e2:SetB q Q (λc=>False\/c∈ap x.els):=e2;replace g7:q.cell? ⟨b3,1,none⟩=some (.map (some Q)):=g7;have j9:Ext wr q:=j7.trans g2;have p8:=Hd (show ScA q t ({f with N:=λc=>f.N c\/c∈ap (l.take g)}::r) from e6.o.ext j9);have c7:=Hd j9;simp only[false_or] at e1 e2;have p9:=Hd e1;have q0:=Hd e2;have r3:b2≠f.m:=λe=>by
      obtain⟨a1,d0,-⟩:=e8.o.2.2.2.2;have i4:=(e6.o.ext c1.o).2.2.1;rw[e] at d0;exact gW i4 _ d0
     have x6:wr.heap.size<=O:=by omega
     have x7:wr.heap.size<=Q:=by omega
     have n1:f.m<wr.heap.size:=(b1.o _ (cc ..)).2;have y2:O<q.heap.size:=by omega
     have y3:Q<q.heap.size:=by omega
     have r4:b3≠f.m:=λe=>by
      obtain⟨a1,d0,-⟩:=h3.o.2.2.2.2;have i4:=(e6.o.ext c1.o).2.2.1;rw[e] at d0;exact gW i4 _ d0
     obtain⟨l8,x4⟩:∃l8,l8=q:=⟨_,rfl⟩;have k9:=Hd m7;have G:=Hd (aq g4 g5);have j:=Hd (aq g6 g7);clear o4 a0 n7 j7 o7 o3 g2 d1 m7 g4 e1 t0 t1 g5 t2 g6 e2 t3 t4 g7 t5 j9 l5 l6 h3 e8 h4 l7 l4 c8 e3 e4 l0 l1 c1 e7 h6 s2 s3 s0 s1 q9 r0 r1 r2;obtain⟨g8,s6⟩:∃g8,g8=wr:=⟨_,rfl⟩;subst s6;go_wp2_with fail
     go_loopw [51] (λk0 u=>∃a1:Nat,a1<=2/\k0=.int .i64 a1/\ScA u t ({f with N:=λc=>(f.N c\/c∈ap (l.take g))\/1<=a1/\c∈ap x.l\/2<=a1/\c∈ap x.els}::r)/\q.grownBy u (some f.m)) (λk0 _=>2 - (intOf k0).toNat)
     case atStart=>exact⟨0,zO,rfl,p8.o.congr (λs=>by simp),cp (af q)⟩
     case round=>
      obtain⟨u,s7⟩:∃u,u=wr:=⟨_,rfl⟩;subst s7;obtain⟨a1,y1,rfl,c4,K⟩:=hrel;have f9:∀W,u.cell? ⟨b4.w.heap.size,W,none⟩=q.cell? ⟨b4.w.heap.size,W,none⟩:=λW=>ek (K.block _ k9.o.lt (λe=>by have J:b4.w.heap.size=f.m:=Option.some.inj e;omega))
      obtain⟨o8,o9⟩:=k9.o.get2;rw[<-f9] at o8 o9;rcases(show a1=0\/a1=1\/a1=2 by omega) with rfl|rfl|rfl
      ·have g0:u.cell? ⟨b2,1,none⟩=some (.map (some O)):=(ek (K.block _ G.o.1 (λe=>by injection e with e;exact r3 e))).trans G.o.2;have d9:SetB u O (λc=>c∈ap x.l):=p9.o.kept K (λe=>by injection e with e;omega);obtain⟨k2,k1,r7,d5⟩:=d9.range f6;have d6:ScA (u.alloc k2) t ({f with N:=λc=>((f.N c\/c∈ap (l.take g))\/1<=0/\c∈ap x.l\/2<=0/\c∈ap x.els)\/False}::r):=(c4.ext (aE _ _)).congr (λs=>by simp);have h2:=Hd d5;have h5:=Hd d6;have h1:=Hd K;have s4:=K.size;clear d9 d5 d6 c4 K f9;go_wp2_with fail
       go_loopw [11] (λk5 D=>∃(S:ByteArray->Prop) (b9:Nat),RangeB D u.heap.size O (λc=>c∈ap x.l) S b9/\ScA D t ({f with N:=λc=>((f.N c\/c∈ap (l.take g))\/1<=0/\c∈ap x.l\/2<=0/\c∈ap x.els)\/S c}::r)/\u.grownBy D (some f.m)) (λk5 D=>kd D u.heap.size)
       case atStart=>exact⟨_,k1,h2.o,h5.o,cp (aE _ _)⟩
       case round=>
        obtain⟨D,j5⟩:∃D,D=wr:=⟨_,rfl⟩;subst j5;obtain⟨S,b9,L,a6,a5⟩:=hrel;rcases L.next (P:=Tryz.prog) 0 with⟨i6,d2⟩|⟨s,k8,q2,r6,i6,b6,b5,q5⟩
        ·have c5:∀c,S c->c∈ap x.l:=λc j3=>by
          obtain⟨h9,h7,k3,seen,f3,-,-,-,-,a8,-,-,-,-,i0⟩:=L;obtain⟨e,i1,-,i2⟩:=(i0 c).2 j3;exact(a8 c).1 ⟨e,i1,i2⟩
         have a9:=Hd (a6.congr (N':=λc=>(f.N c\/c∈ap (l.take g))\/1<=1/\c∈ap x.l\/2<=1/\c∈ap x.els) (λc=>by
          have Z:=d2 c;have T:=c5 c;constructor
          ·rintro(d|d)
           ·exact d.elim .inl (λd=>d.elim (λd=>absurd d.1 zO) (λd=>absurd d.1 zO))
           ·exact .inr (.inl ⟨zO,T d⟩)
          ·rintro(d|d|d)
           ·exact .inl (.inl d)
           ·exact .inr (Z d.2)
           ·exact absurd d.1 zO))
         have b0:=Hd (bV h1.o a5);clear L a6 a5 d2 c5;go_wp2_with fail
         go_roundw;case rel=>exact⟨1,zO,zN,a9.o,b0.o⟩
         case measure=>simp[intOf]
        ·have i3:=gX L;have q8:=gX b6;have b7:=a6.kept b5 (λW hi=>by
          cases hi;refine⟨λk h=>?_,λv j4=>?_⟩
          ·have T:k.m<g8.heap.size:=by
            rcases List.mem_cons.1 h with rfl|h
            ·exact n1
            ·exact(b1.o k (bi _ h)).2
           have:=c7.o.size;omega
          ·obtain⟨h9,h7,k3,seen,f3,i7,-⟩:=L;simp[World.cell?,i7] at j4)
         obtain⟨i8,i9,d8,j0,s9,r8,r9,j1⟩:=id b7;obtain⟨g3,s5,d7⟩:=d8.add f6 underlying9 s;have a4:=gl k8 f.m g3;have c6:=Hd (b6.kept a4 (λe=>by injection e with e;omega) (λe=>by injection e with e;have:=c7.o.size;omega));have a9:=Hd ((b7.more a4 d7).congr (N':=λc=>((f.N c\/c∈ap (l.take g))\/1<=0/\c∈ap x.l\/2<=0/\c∈ap x.els)\/S c\/c=s) (λc=>or_assoc));have b0:=Hd (bV (rA a5 b5 (ac _)) a4);have g9:=Hd (gX c6.o);obtain rfl:t=some ⟨f.b,0,none⟩:=i8;clear L a6 a5 b6 b5 b7 i9 d8 j0 j1 d7 a4;go_wp2_with fail
         go_roundw;case rel=>exact⟨_,b9 - 1,c6.o,a9.o,b0.o⟩
         case measure=>rw[g9.o,i3];omega
      ·have g0:u.cell? ⟨b3,1,none⟩=some (.map (some Q)):=(ek (K.block _ j.o.1 (λe=>by injection e with e;exact r4 e))).trans j.o.2;have d9:SetB u Q (λc=>c∈ap x.els):=q0.o.kept K (λe=>by injection e with e;omega);obtain⟨k2,k1,r7,d5⟩:=d9.range f6;have d6:ScA (u.alloc k2) t ({f with N:=λc=>((f.N c\/c∈ap (l.take g))\/1<=1/\c∈ap x.l\/2<=1/\c∈ap x.els)\/False}::r):=(c4.ext (aE _ _)).congr (λs=>by simp);have h2:=Hd d5;have h5:=Hd d6;have h1:=Hd K;have s4:=K.size;clear d9 d5 d6 c4 K f9;go_wp2_with fail
       go_loopw [11] (λk5 D=>∃(S:ByteArray->Prop) (b9:Nat),RangeB D u.heap.size Q (λc=>c∈ap x.els) S b9/\ScA D t ({f with N:=λc=>((f.N c\/c∈ap (l.take g))\/1<=1/\c∈ap x.l\/2<=1/\c∈ap x.els)\/S c}::r)/\u.grownBy D (some f.m)) (λk5 D=>kd D u.heap.size)
       case atStart=>exact⟨_,k1,h2.o,h5.o,cp (aE _ _)⟩
       case round=>
        obtain⟨D,j5⟩:∃D,D=wr:=⟨_,rfl⟩;subst j5;obtain⟨S,b9,L,a6,a5⟩:=hrel;rcases L.next (P:=Tryz.prog) 0 with⟨i6,d2⟩|⟨s,k8,q2,r6,i6,b6,b5,q5⟩
        ·have c5:∀c,S c->c∈ap x.els:=λc j3=>by
          obtain⟨h9,h7,k3,seen,f3,-,-,-,-,a8,-,-,-,-,i0⟩:=L;obtain⟨e,i1,-,i2⟩:=(i0 c).2 j3;exact(a8 c).1 ⟨e,i1,i2⟩
         have a9:=Hd (a6.congr (N':=λc=>(f.N c\/c∈ap (l.take g))\/1<=2/\c∈ap x.l\/2<=2/\c∈ap x.els) (λc=>by
          have Z:=d2 c;have T:=c5 c;constructor
          ·rintro(d|d)
           ·exact d.elim .inl (λd=>d.elim (λd=>.inr (.inl ⟨zO,d.2⟩)) (λd=>absurd d.1 zO))
           ·exact .inr (.inr ⟨zO,T d⟩)
          ·rintro(d|d|d)
           ·exact .inl (.inl d)
           ·exact .inl (.inr (.inl ⟨zO,d.2⟩))
           ·exact .inr (Z d.2)))
         have b0:=Hd (bV h1.o a5);clear L a6 a5 d2 c5;go_wp2_with fail
         go_roundw;case rel=>exact⟨2,zO,zN,a9.o,b0.o⟩
         case measure=>simp[intOf]
        ·have i3:=gX L;have q8:=gX b6;have b7:=a6.kept b5 (λW hi=>by
          cases hi;refine⟨λk h=>?_,λv j4=>?_⟩
          ·have T:k.m<g8.heap.size:=by
            rcases List.mem_cons.1 h with rfl|h
            ·exact n1
            ·exact(b1.o k (bi _ h)).2
           have:=c7.o.size;omega
          ·obtain⟨h9,h7,k3,seen,f3,i7,-⟩:=L;simp[World.cell?,i7] at j4)
         obtain⟨i8,i9,d8,j0,s9,r8,r9,j1⟩:=id b7;obtain⟨g3,s5,d7⟩:=d8.add f6 underlying9 s;have a4:=gl k8 f.m g3;have c6:=Hd (b6.kept a4 (λe=>by injection e with e;omega) (λe=>by injection e with e;have:=c7.o.size;omega));have a9:=Hd ((b7.more a4 d7).congr (N':=λc=>((f.N c\/c∈ap (l.take g))\/1<=1/\c∈ap x.l\/2<=1/\c∈ap x.els)\/S c\/c=s) (λc=>or_assoc));have b0:=Hd (bV (rA a5 b5 (ac _)) a4);have g9:=Hd (gX c6.o);obtain rfl:t=some ⟨f.b,0,none⟩:=i8;clear L a6 a5 b6 b5 b7 i9 d8 j0 j1 d7 a4;go_wp2_with fail
         go_roundw;case rel=>exact⟨_,b9 - 1,c6.o,a9.o,b0.o⟩
         case measure=>rw[g9.o,i3];omega
      ·have p5:=Hd (c4.congr (N':=λc=>f.N c\/c∈ap (l.take (g+1))) (λs=>by
        rw[a2.o,List.mem_append,fM];simp[or_assoc]))
       have p4:=Hd (bV (bV n.o (cp c7.o)) K);clear c4 K f9 o8 o9;go_wp2_with fail
       go_roundw;case rel=>exact⟨g+1,zO,zN,p5.o,p4.o,p7.o⟩
       case measure=>simp[intOf];omega
    ·obtain⟨p0,p1⟩:=f1.o H U;have a2:=Hd (c2.o.trans (by rw[p1,List.append_nil]));have I:=Hd p0;unfold cy at H;have X:(x.op==1)=false:=by simp;omega
     have J:(x.op==2)=false:=by simp;omega
     have Y:(x.op==3)=false:=by simp;omega
     have f4:(x.op==7)=false:=by simp;omega
     have h8:(x.op==10)=false:=by simp;omega
     have l9:(x.op==9)=false:=by simp;omega
     have q1:(x.op==8)=false:=by simpa using U
     clear e9 f0 f1 c2 c9 H U p0 p1 c8 e3 e4;generalize x.op=op at*;go_wp2_with fail
     go_roundw;case rel=>exact⟨g+1,zO,zN,by rw[a2.o];exact a3.o,bV n.o (cp y.o),I.o⟩
     case measure=>simp[intOf];omega
  ·have q7:g=l.length:=by omega
   subst q7;rw[List.take_length] at M b8;have h0:=Hd (aq b8 (aq M d4));clear M b8 d4 j2;go_wp2_with fail
   go_end0
   exact .inl ⟨h0.o.1,rfl,h0.o.2.1,h0.o.2.2⟩
theorem rU(B:Nat):∀(n:Nat) (l:List Itm),aa aj l<=n->n<=1000000000->jf B l:=by
 intro n;induction n with
 |zero=>
  intro l b c;refine rV B l (by have:=aw aj l cQ;omega) λx a=>?_
  have:=ay aj l x a;have:=cQ x;omega
 |succ n ih=>
  intro l b c;refine rV B l (by have:=aw aj l cQ;omega) λx a=>?_
  have d:=ay aj l x a;have e:=bq x;exact⟨ih x.l zO zO,ih x.els zO zO⟩
theorem Sl.keepS{w b:World}{B:Nat}{l:List S}{v:Value}(h:Sl (RS w B) w B 4 l v)(c:Below B w b):Sl (RS b B) b B 4 l v:=
 h.keep (λe a=>c.cell a) (ac _) (λf _ d=>RS.keep (λe a=>c.cell a) (ac _) f d)
theorem Ext.below{B:Nat}{w a:World}(h:Ext w a)(b:B<=w.heap.size):Below B w a:=(Below.refl B w).trans (h.mono b)
theorem qa{A B C:Prop}:((False\/A)\/B)\/C↔C\/B\/A:=by
 constructor
 ·rintro(((a|a)|a)|a)
  ·exact a.elim
  ·exact .inr (.inr a)
  ·exact .inr (.inl a)
  ·exact .inl a
 ·rintro(a|a|a)
  ·exact .inr a
  ·exact .inl (.inr a)
  ·exact .inl (.inl (.inr a))
theorem qH{C:ByteArray->Prop}{l:List S}{k:Nat}(a:k<l.length):bE C (l.take (k+1))↔bE C (l.take k)/\lpS C l[k]:=by
 rw[List.take_succ_eq_append_getElem a,oU];simp[bE]
theorem tQ{C:ByteArray->Prop}{l:List S}{k:Nat}(h:bE C l):bE C (l.take k):=by
 rw[<-List.take_append_drop k l,oU] at h;exact h.1
theorem qC{C:ByteArray->Prop}{l:List Itm}{k:Nat}(a:k<l.length):bf C (l.take (k+1))↔bf C (l.take k)/\inI C l[k]:=by
 rw[List.take_succ_eq_append_getElem a,oT];simp[bf]
theorem tJ{C:ByteArray->Prop}{l:List Itm}{k:Nat}(h:bf C l):bf C (l.take k):=by
 rw[<-List.take_append_drop k l,oT] at h;exact h.1
def jA(B:Nat)(l:List S):Prop:=∀(w:World) (v:Value) (a:List Scp) (c:Option Addr),ScA w c a->Sl (RS w B) w B 4 l v->B<=w.heap.size->(∀b,b∈a->B<=b.m/\b.m<w.heap.size)->
 Calls Tryz.prog 141 #[.pointer c,v] w λe d=>(bE (inC a) l/\e=.returned (.tuple #[])/\Ext w d)\/(¬bE (inC a) l/\e=.panicked [gy]/\Ext w d)
theorem qg(B:Nat)(l:List S)(e6:l.length<=1000000000)(V:∀x,x∈l->jA B x.l):jA B l:=by
 intro w v c c7 b3 c2 Z a8;obtain⟨d1,d8,rfl,c4,b0⟩:=c2;have F:=Hd a8;have R:=Hd V;have b8:=Hd b3;clear c4 a8 V b3;go_enter func141,ntmps141;go_wp2_with fail
 go_loopw [9] (λM wr=>∃b:Nat,b<=l.length/\M=.int .i64 b/\Ext w wr/\bE (inC c) (l.take b)) (λM _=>l.length - (intOf M).toNat)
 case atStart=>exact⟨0,aA _,rfl,af _,trivial⟩
 case round=>
  obtain⟨b,e5,rfl,h,z⟩:=hrel;by_cases E:b<l.length
  ·obtain⟨d2,o,g5,g6,c8,O,rfl,c3,a1,a0,g1,g2,g3,g4⟩:=b0.open4 E;have J:Below B w wr:=h.below Z;obtain⟨d9,e0,e1,e2⟩:=(a0.below J c3).get4;obtain⟨g8,g9,a5,-,a7⟩:=RS_iff.1 a1;simp only[List.cons.injEq,and_true] at a5;obtain⟨rfl,rfl,rfl,rfl⟩:=a5;have W:=Hd (R.o l[b] (an E));have T:=Hd (a7.keepS J);have C:=Hd (show bE (inC c) (l.take (b+1))↔lpS (inC c) l[b] from⟨λa=>((qH E).1 a).2,λa=>(qH E).2 ⟨z,a⟩⟩);have A:=Hd (mO (inC c) l[b]);have G:=Hd (λ(j:¬bE (inC c) (l.take (b+1)))=>(λ(a:bE (inC c) l)=>j (tQ a):¬bE (inC c) l));have p:=Hd h;have D:B<=wr.heap.size:=ad Z h.size;have f2:=h.size;have b7:=Hd (b8.o.ext h);clear a1 a0 b0 a7 z h R J;generalize l[b]=x at*;obtain⟨d0,X,e4,⟨f3,f4,f5,f6⟩,⟨f7,f8,f9,g0⟩,a2,a3,L,c6⟩:=varS wr (.int .i64 x.op) (.string x.name) c8 O;obtain⟨ec,a6⟩:=ae (af X);replace a2:=a2.trans a6;obtain⟨d4,d5,d6,d7⟩:=a3.later4;have k:=Hd (L.trans ec.ext);have U:=Hd (b7.o.ext (L.trans ec.ext));clear a3 L c6 a6;have f0:=k.o.size;by_cases g:x.op=6
   ·have n:=Hd (C.o.trans (A.o.trans ⟨λa=>⟨a.1 g,(gM (λs=>by simp[g]) x.l).1 a.2⟩,λ(a:¬inC c x.name/\bE (λs=>inC c s\/s=x.name) x.l)=>⟨λ_=>a.1,(gM (λs=>by simp[g]) x.l).2 a.2⟩⟩));clear C A;generalize e9:x.op=op at*;subst g;go_wp2_with fail
    go_at_call 93;refine(ix ec.w c7 _ U.o (λt i=>by have:=(F.o t i).2;omega)).mono ?_;rintro _ g7 ⟨d3,N,rfl,b1,K,e7,e8⟩;obtain⟨I,rfl⟩:=ae (ec.ext.trans K);have b9:=Hd b1;have Y:=Hd (k.o.trans K);clear b1 K;go_wp2_with fail
    go_at_call 94;refine(eV I.w _ _ _ x.name b9.o).mono ?_;rintro _ P (⟨a9,rfl,b2,m⟩|⟨a4,rfl,rfl⟩);rotate_left
    ·have q:=Hd (G.o (λu=>(n.o.1 u).1 (((inC_cons.1 a4)).resolve_left (λa=>a))));have f:=Hd (p.o.trans Y.o);clear a4;go_wp2_with fail
     exact⟨rfl,.inr ⟨q.o,rfl,f.o⟩⟩
    replace m:I.w.grownBy P (some N):=m;have b4:Ext wr P:=dy Y.o m zO;have b5:Ext X P:=dy I.ext m (by have:=ec.ext.size;omega);obtain⟨c1,rfl⟩:=ae b5;have f1:=m.size;have c0:=Hd b2;have r:=Hd b4;have b6:=Hd (λ(a:inC c x.name)=>a9 (inC_cons.2 (.inr a)));clear b2 m b4 b5 a9;go_wp2_with fail
    go_at_call 141;refine(W.o c1.w O _ _ c0.o (T.o.keepS (r.o.below D)) (ad D r.o.size) (λt i=>by
     rcases List.mem_cons.1 i with rfl|i
     ·exact⟨by show B<=N;omega,by show N<_;omega⟩
     ·have:=F.o t i;exact⟨this.1,by have:=r.o.size;omega⟩)).mono ?_
    rintro _ c9 (⟨y,rfl,d⟩|⟨j,rfl,d⟩)
    ·have H:=Hd (n.o.2 ⟨b6.o,(gM (λs=>by rw[inC_cons];simp[or_comm]) x.l).1 y⟩);have f:=Hd (p.o.trans (r.o.trans d));clear y d;go_wp2_with fail
     go_roundw;case rel=>exact⟨b+1,zO,zN,f.o,H.o⟩
     case measure=>simp[intOf];omega
    ·have q:=Hd (G.o (λu=>j ((gM (λs=>by rw[inC_cons];simp[or_comm]) x.l).2 (n.o.1 u).2)));have f:=Hd (p.o.trans (r.o.trans d));clear j d;go_wp2_with fail
     exact⟨rfl,.inr ⟨q.o,rfl,f.o⟩⟩
   ·have n:=Hd (C.o.trans (A.o.trans ⟨λa=>(gM (λs=>by simp[g]) x.l).1 a.2,λ(a:bE (inC c) x.l)=>⟨λe=>absurd e g,(gM (λs=>by simp[g]) x.l).2 a⟩⟩));have e3:(x.op==6)=false:=by simpa using g
    clear C A g;generalize x.op=op at*;go_wp2_with fail
    go_at_call 141;refine(W.o ec.w O _ _ U.o (T.o.keepS (k.o.below D)) (ad D k.o.size) (λt i=>by have:=F.o t i;exact⟨this.1,zO⟩)).mono ?_;rintro _ c9 (⟨y,rfl,d⟩|⟨j,rfl,d⟩)
    ·have H:=Hd (n.o.2 y);have f:=Hd (p.o.trans (k.o.trans d));clear y d;go_wp2_with fail
     go_roundw;case rel=>exact⟨b+1,zO,zN,f.o,H.o⟩
     case measure=>simp[intOf];omega
    ·have q:=Hd (G.o (λu=>j (n.o.1 u)));have f:=Hd (p.o.trans (k.o.trans d));clear j d;go_wp2_with fail
     exact⟨rfl,.inr ⟨q.o,rfl,f.o⟩⟩
  ·have c5:b=l.length:=by omega
   subst c5;rw[List.take_length] at z;have Q:=Hd (aq z h);clear z h;go_wp2_with fail
   go_end0
   exact .inl ⟨Q.o.1,rfl,Q.o.2⟩
theorem tb(B:Nat):∀(n:Nat) (l:List S),aa ao l<=n->n<=1000000000->jA B l:=by
 intro n;induction n with
 |zero=>
  intro l b c;refine qg B l (by have:=aw ao l da;omega) λx a=>?_
  have:=ay ao l x a;have:=da x;omega
 |succ n ih=>
  intro l b c;refine qg B l (by have:=aw ao l da;omega) λx a=>?_
  have d:=ay ao l x a;have e:=bW x;exact ih x.l zO zO
def jx(B:Nat)(l:List Itm):Prop:=∀(w:World) (v:Value) (a:List Scp) (c:Option Addr),ScA w c a->Sl (RI w B) w B 9 l v->B<=w.heap.size->(∀b,b∈a->B<=b.m/\b.m<w.heap.size)->
 Calls Tryz.prog 96 #[.pointer c,v] w λe d=>(bf (inC a) l/\e=.returned (.tuple #[])/\Ext w d)\/(¬bf (inC a) l/\e=.panicked [gy]/\Ext w d)
theorem pM(B:Nat)(l:List Itm)(j4:l.length<=1000000000)(b5:∀x,x∈l->jA B x.s/\jf B x.l/\jx B x.l/\jx B x.els):jx B l:=by
 intro w v p g2 d4 f7 b7 c7;obtain⟨g8,i0,rfl,f9,c9⟩:=f7;have A:=Hd c7;have b4:=Hd b5;have e7:=Hd d4;clear f9 c7 b5 d4;go_enter func96,ntmps96;go_wp2_with fail
 go_loopw [9] (λb1 wr=>∃g:Nat,g<=l.length/\b1=.int .i64 g/\Ext w wr/\bf (inC p) (l.take g)) (λb1 _=>l.length - (intOf b1).toNat)
 case atStart=>exact⟨0,aA _,rfl,af _,trivial⟩
 case round=>
  obtain⟨g,j3,rfl,D,S⟩:=hrel;by_cases Y:g<l.length
  ·obtain⟨g9,o,m9,n0,n1,g3,Z,a0,e1,g4,g5,rfl,f8,b9,b8,m0,m1,m2,m3,m4,m5,m6,m7,m8⟩:=c9.open9 Y;have Q:Below B w wr:=D.below b7;obtain⟨i1,i2,i3,i4,i5,i6,i7,i8,i9⟩:=(b8.below Q f8).get9;obtain⟨n3,n4,n5,n6,n7,n8,c2,-,c4,c5,c6,-,-⟩:=RI_iff.1 b9;simp only[List.cons.injEq,and_true] at c2;obtain⟨rfl,rfl,rfl,rfl,rfl,rfl,rfl,rfl,rfl⟩:=c2;have H:=Hd (b4.o l[g] (an Y));have a3:=Hd (c4.keepS Q);have a4:=Hd (c5.keepI Q);have e5:=Hd (c6.keepI Q);have q:=Hd (show bf (inC p) (l.take (g+1))↔_ from(⟨λd=>((qC Y).1 d).2,λd=>(qC Y).2 ⟨S,d⟩⟩:bf (inC p) (l.take (g+1))↔inI (inC p) l[g]).trans (ji (inC p) l[g]));have C:=Hd (λ(a:¬bf (inC p) (l.take (g+1)))=>(λ(d:bf (inC p) l)=>a (tJ d):¬bf (inC p) l));have n:=Hd D;have k:B<=wr.heap.size:=ad b7 D.size;have k1:=D.size;have V:=Hd (e7.o.ext D);clear b9 b8 c9 c4 c5 c6 S D b4 Q;generalize l[g]=x at*;obtain⟨g7,a8,j1,⟨k2,k3,k4,k5,k6,k7,k8,k9,l0⟩,⟨l1,l2,l3,l4,l5,l6,l7,l8,l9⟩,c0,c1,b0,g1⟩:=iJ wr (.int .i64 x.op) (.string x.name) (.string x.of) g3 Z a0 e1 g4 g5;obtain⟨ec,c3⟩:=ae (af a8);replace c0:=c0.trans c3;obtain⟨h1,h2,h3,h4,h5,h6,h7,h8,h9⟩:=c1.later9;have f:=Hd (b0.trans ec.ext);have a5:=Hd (V.o.ext (b0.trans ec.ext));clear c1 b0 g1 c3;have j7:=f.o.size;have j2:=ec.ext.size;by_cases P:x.op=8
   ·have b3:=Hd P;generalize E:x.op=op at*;subst P;go_wp2_with fail
    go_at_call 141;refine(H.o.1 ec.w Z _ _ a5.o (a3.o.keepS (f.o.below k)) (ad k f.o.size) (λi e=>by have:=A.o i e;exact⟨this.1,by have:=f.o.size;omega⟩)).mono ?_;rintro _ e2 (⟨G,rfl,c⟩|⟨a,rfl,c⟩);rotate_left
    ·have h:=Hd (C.o (λj=>a ((q.o.1 j).1)));have b:=Hd (n.o.trans (f.o.trans c));clear a c;go_wp2_with fail
     exact⟨rfl,.inr ⟨h.o,rfl,b.o⟩⟩
    obtain⟨I,rfl⟩:=ae (ec.ext.trans c);have t:=Hd (f.o.trans c);have a7:=Hd (V.o.ext t.o);have a6:=Hd G;clear G c;go_wp2_with fail
    go_at_call 96;refine(H.o.2.2.1 I.w a0 _ _ a7.o (a4.o.keepI (t.o.below k)) (ad k t.o.size) (λi e=>by have:=A.o i e;exact⟨this.1,by have:=t.o.size;omega⟩)).mono ?_;rintro _ g6 (⟨d7,rfl,r⟩|⟨a,rfl,r⟩);rotate_left
    ·have h:=Hd (C.o (λj=>a (((q.o.1 j).2.1 (by first|trivial|rfl|exact E)).1)));have b:=Hd (n.o.trans (t.o.trans r));clear a r;go_wp2_with fail
     exact⟨rfl,.inr ⟨h.o,rfl,b.o⟩⟩
    obtain⟨O,rfl⟩:=ae (I.ext.trans r);have u:=Hd (t.o.trans r);have f2:=Hd (V.o.ext u.o);have e8:=Hd d7;clear d7 r;go_wp2_with fail
    go_at_call 96;refine(H.o.2.2.2 O.w e1 _ _ f2.o (e5.o.keepI (u.o.below k)) (ad k u.o.size) (λi e=>by have:=A.o i e;exact⟨this.1,by have:=u.o.size;omega⟩)).mono ?_;rintro _ a1 (⟨d8,rfl,F⟩|⟨a,rfl,F⟩);rotate_left
    ·have h:=Hd (C.o (λj=>a (((q.o.1 j).2.1 (by first|trivial|rfl|exact E)).2)));have b:=Hd (n.o.trans (u.o.trans F));clear a F;go_wp2_with fail
     exact⟨rfl,.inr ⟨h.o,rfl,b.o⟩⟩
    have b:=Hd (n.o.trans (u.o.trans F));have L:=Hd (q.o.2 ⟨a6.o,λ_=>⟨e8.o,d8⟩,λd=>absurd d (by first|decide|(rw[E];decide))⟩);clear d8 F;go_wp2_with fail
    go_roundw;case rel=>exact⟨g+1,zO,zN,b.o,L.o⟩
    case measure=>simp[intOf];omega
   ·by_cases X:x.op=9
    ·generalize E:x.op=op at*;subst X;have f4:((9:Int)==8)=false:=rfl;go_wp2_with fail
     go_at_call 141;refine(H.o.1 ec.w Z _ _ a5.o (a3.o.keepS (f.o.below k)) (ad k f.o.size) (λi e=>by have:=A.o i e;exact⟨this.1,by have:=f.o.size;omega⟩)).mono ?_;rintro _ e2 (⟨G,rfl,c⟩|⟨a,rfl,c⟩);rotate_left
     ·have h:=Hd (C.o (λj=>a ((q.o.1 j).1)));have b:=Hd (n.o.trans (f.o.trans c));clear a c;go_wp2_with fail
      exact⟨rfl,.inr ⟨h.o,rfl,b.o⟩⟩
     obtain⟨I,rfl⟩:=ae (ec.ext.trans c);have t:=Hd (f.o.trans c);have a7:=Hd (V.o.ext t.o);have a6:=Hd G;have j8:=c.size;clear G c;go_wp2_with fail
     go_at_call 93;refine(ix I.w g2 _ a7.o (λi e=>by have:=(A.o i e).2;omega)).mono ?_;rintro _ g6 ⟨h0,K,rfl,d1,r,j5,j6⟩;obtain⟨O,rfl⟩:=ae (I.ext.trans r);have e9:=Hd d1;have u:=Hd (t.o.trans r);clear d1 r;go_wp2_with fail
     go_at_call 94;refine(eV O.w _ _ _ x.of e9.o).mono ?_;rintro _ a1 (⟨c8,rfl,d2,J⟩|⟨m,rfl,rfl⟩);rotate_left
     ·have h:=Hd (C.o (λj=>((q.o.1 j).2.2 (by first|trivial|rfl|exact E)).2.2.1 x.of (.inr rfl) (((inC_cons.1 m)).resolve_left (λd=>d))));have b:=Hd (n.o.trans u.o);clear m;go_wp2_with fail
      exact⟨rfl,.inr ⟨h.o,rfl,b.o⟩⟩
     replace J:O.w.grownBy a1 (some K):=J;have F:Ext wr a1:=dy u.o J zO;have d5:Ext a8 a1:=dy O.ext J zO;obtain⟨a9,rfl⟩:=ae d5;have j9:=J.size;have f0:=Hd d2;have M:=Hd F;have e6:=Hd (λ(d:inC p x.of)=>c8 (inC_cons.2 (.inr d)));clear d2 J F d5 c8;go_wp2_with fail
     go_at_call 95;refine(H.o.2.1 a9.w a0 _ _ _ f0.o (a4.o.keepI (M.o.below k)) (ad k M.o.size) (λi e=>by
      rcases List.mem_cons.1 e with rfl|e
      ·exact⟨by show B<=K;omega,by show K<_;omega⟩
      ·have:=A.o i e;exact⟨this.1,by have:=M.o.size;omega⟩)).mono ?_
     rintro _ a2 (⟨d9,rfl,d3,y⟩|⟨a,rfl,y⟩)<;>replace y:a9.w.grownBy a2 (some K):=y;rotate_left
     ·have T:Ext wr a2:=dy M.o y zO;have h:=Hd (C.o (λj=>a (by
       obtain⟨b6,f5,f6,-⟩:=(q.o.1 j).2.2 (by first|trivial|rfl|exact E);refine⟨b6.1,b6.2,λs d0 m=>?_⟩;rcases inC_cons.1 m with(m|m)|m
       ·exact m
       ·exact f5 (by rw[<-show s=x.of from m];exact d0)
       ·exact f6 s (.inl d0) m)))
      have b:=Hd (n.o.trans T);clear a y T;go_wp2_with fail
      exact⟨rfl,.inr ⟨h.o,rfl,b.o⟩⟩
     have T:Ext wr a2:=dy M.o y zO;have d6:Ext a8 a2:=dy a9.ext y zO;obtain⟨f3,rfl⟩:=ae d6;have k0:=y.size;have f1:=Hd d3;have N:=Hd T;have W:=Hd d9;clear d3 y T d6 d9;go_wp2_with fail
     go_at_call 96;refine(H.o.2.2.1 f3.w a0 _ _ f1.o (a4.o.keepI (N.o.below k)) (ad k N.o.size) (λi e=>by
      rcases List.mem_cons.1 e with rfl|e
      ·exact⟨by show B<=K;omega,by show K<_;omega⟩
      ·have:=A.o i e;exact⟨this.1,by have:=N.o.size;omega⟩)).mono ?_
     rintro _ n2 (⟨e0,rfl,U⟩|⟨a,rfl,U⟩);rotate_left
     ·have h:=Hd (C.o (λj=>a ((ij (λs=>inC_cons.trans qa) x.l).2 ((q.o.1 j).2.2 (by first|trivial|rfl|exact E)).2.2.2)));have b:=Hd (n.o.trans (N.o.trans U));clear a U;go_wp2_with fail
      exact⟨rfl,.inr ⟨h.o,rfl,b.o⟩⟩
     have e3:=Hd (show iI x.l/\¬x.of∈ap x.l/\(∀z,z∈ap x.l\/z=x.of->¬inC p z)/\bf (λz=>inC p z\/z∈ap x.l\/z=x.of) x.l from
      ⟨⟨W.o.1,W.o.2.1⟩,λd=>W.o.2.2 _ d (inC_cons.2 (.inl (.inr rfl))),λz R=>by
       rcases R with R|R
       ·exact λm=>W.o.2.2 z R (inC_cons.2 (.inr m))
       ·rw[R];exact e6.o,(ij (λs=>inC_cons.trans qa) x.l).1 e0⟩)
     have b:=Hd (n.o.trans (N.o.trans U));have L:=Hd (q.o.2 ⟨a6.o,λd=>absurd d (by first|decide|(rw[E];decide)),λ_=>e3.o⟩);clear e0 U;go_wp2_with fail
     go_roundw;case rel=>exact⟨g+1,zO,zN,b.o,L.o⟩
     case measure=>simp[intOf];omega
    ·have f4:(x.op==8)=false:=by simpa using P
     have j0:(x.op==9)=false:=by simpa using X
     have b3:=Hd P;have e4:=Hd X;clear P X;generalize x.op=op at*;go_wp2_with fail
     go_at_call 141;refine(H.o.1 ec.w Z _ _ a5.o (a3.o.keepS (f.o.below k)) (ad k f.o.size) (λi e=>by have:=A.o i e;exact⟨this.1,by have:=f.o.size;omega⟩)).mono ?_;rintro _ e2 (⟨G,rfl,c⟩|⟨a,rfl,c⟩);rotate_left
     ·have h:=Hd (C.o (λj=>a ((q.o.1 j).1)));have b:=Hd (n.o.trans (f.o.trans c));clear a c;go_wp2_with fail
      exact⟨rfl,.inr ⟨h.o,rfl,b.o⟩⟩
     obtain⟨I,rfl⟩:=ae (ec.ext.trans c);have b:=Hd (n.o.trans (f.o.trans c));have L:=Hd (q.o.2 ⟨G,λd=>absurd d b3.o,λd=>absurd d e4.o⟩);clear G c;go_wp2_with fail
     go_roundw;case rel=>exact⟨g+1,zO,zN,b.o,L.o⟩
     case measure=>simp[intOf];omega
  ·have g0:g=l.length:=by omega
   subst g0;rw[List.take_length] at S;have b2:=Hd (aq S D);clear S D;go_wp2_with fail
   go_end0
   exact .inl ⟨b2.o.1,rfl,b2.o.2⟩
theorem tE(B:Nat):∀(n:Nat) (l:List Itm),aa aj l<=n->n<=1000000000->jx B l:=by
 intro n;induction n with
 |zero=>
  intro l b c;refine pM B l (by have:=aw aj l cQ;omega) λx a=>?_
  have:=ay aj l x a;have:=cQ x;omega
 |succ n ih=>
  intro l b c;refine pM B l (by have:=aw aj l cQ;omega) λx a=>?_
  have d:=ay aj l x a;have e:=bq x;exact⟨tb B n x.s zO zO,rU B n x.l zO zO,ih x.l zO zO,ih x.els zO zO⟩

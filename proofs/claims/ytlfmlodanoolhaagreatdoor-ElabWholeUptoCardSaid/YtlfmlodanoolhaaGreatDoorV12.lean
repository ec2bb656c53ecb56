import Derived.Laws.IdiomStrings
import Derived.Test.YtlfmlodanoolhaaGreatDoorV8
import Derived.Test.YtlfmlodanoolhaaGreatDoorV9
set_option linter.all false
set_option maxRecDepth 200000
set_option maxHeartbeats 0
namespace Go.Proofs.YtlfmlodanoolhaaGreatDoor
open Go Go.RowKit Go.Proofs.Tryz
attribute [local go_sem] bc
def LibOk(w:World):Prop:=∃a:Int,w.cell? ⟨5,0,none⟩=some (.int .i64 a)
theorem LibOk.ext{w a:World}(h:LibOk w)(c:Ext w a):LibOk a:=by
 obtain⟨d,b⟩:=h;exact⟨d,c.at_ b⟩
theorem xd(l s:ByteArray)(w:World)(j:LibOk w)(m:l.size<4294967281)(n:s.size<4294967281):
 Calls Tryz.prog 198 #[.string l,.string s] w λe p=>e=.returned (.bool (s.data.toList !=[] && (!Lib.contains s.data.toList [32] && Lib.contains l.data.toList (32::(s.data.toList++[32])))))/\p=w:=by
 obtain⟨g,f⟩:=j;obtain⟨b,a⟩:∃b,b=(s.data.toList !=[] && (!Lib.contains s.data.toList [32] && Lib.contains l.data.toList (32::(s.data.toList++[32])))):=⟨_,rfl⟩;rw[<-a];have c:=Hd a;clear a
 go_in
 by_cases d:s.toList=[]
 ·have a:b=false:=by rw[c.o,<-ByteArray.toList_eq,d];rfl
  subst a;go_wp2_with fail
  go_ret;exact⟨rfl,rfl⟩
 ·have i:s.data.toList≠[]:=by rw[<-ByteArray.toList_eq];exact d
  have r:s.toList.isEmpty=false:=by cases h:s.toList with|nil=>exact(d h).elim|cons _ _=>rfl
  go_wp2_with fail
  refine(Tryz.strings_Contains _ _ g _ n f).mono ?_;rintro e q ⟨rfl,rfl⟩;have k:(s.data.toList !=[])=true:=by simpa using i
  cases hc:Lib.contains s.data.toList [32] with
  |true=>
   have a:b=false:=by rw[c.o,hc];simp
   subst a;simp only[show(⟨#[32]⟩:ByteArray).data.toList=[32] from rfl,hc];go_wp2_with fail
   go_ret;exact⟨rfl,rfl⟩
  |false=>
   have a:b=Lib.contains l.data.toList (32::(s.data.toList++[32])):=by rw[c.o,hc,k];simp
   simp only[show(⟨#[32]⟩:ByteArray).data.toList=[32] from rfl,hc];go_wp2_with fail
   refine(Tryz.strings_Contains _ _ g _ m f).mono ?_;rintro e q ⟨rfl,rfl⟩;go_wp2_with fail
   go_ret;exact⟨by rw[a];rfl,rfl⟩
theorem wU(s:ByteArray)(w:World)(a:LibOk w)(b:s.size<4294967281):
 Calls Tryz.prog 171 #[.string s] w λe d=>e=.returned (.bool (jk s))/\d=w:=by
 have c:=wV s.data.toList;unfold jk;rw[<-c]
 go_in
 go_wp2_with fail
 refine(xd _ s w a zD b).mono ?_;rintro e f ⟨rfl,rfl⟩;go_wp2_with fail
 go_ret;exact⟨rfl,rfl⟩
theorem vX:∀n:Fin 256,(bits .or .u8 (n.val:Int) 32<97\/122<bits .or .u8 (n.val:Int) 32)↔¬(97<=n.val/\n.val<=122\/65<=n.val/\n.val<=90):=by decide
theorem eN(s:ByteArray)(w:World)(S:LibOk w)(T:s.size<4294967281):
 Calls Tryz.prog 134 #[.string s] w λe W=>e=.returned (.bool (dT s))/\Ext w W:=by
 obtain⟨f,c⟩:∃f,f=dT s:=⟨_,rfl⟩;rw[<-c];have i:=Hd c;clear c;have G:=run_bytes_of_string w 9 218 5 s (P:=Tryz.prog) zK zK zK;obtain⟨q,E⟩:∃d,d=grownCap w s.size 0 5:=⟨_,rfl⟩;rw[<-E] at G;obtain⟨p,u⟩:∃p,p=w.drew.alloc (.cells (bytesRow s q) 5 ((bytesRow s q).size,(bytesRow s q).size+1)):=⟨_,rfl⟩;have h:Ext w p:=by rw[u];exact(af w).drew.alloc _
 have F:∀(b:Nat) (v:b<s.data.size),p.cell? ⟨w.heap.size,b,none⟩=some (.int .u8 (s.data[b].toNat:Int)):=λb v=>by
  rw[u];exact(World.cell?_alloc_mark w.drew (bytesRow s q) 5 _ b).trans (bytesRow_at s q b v)
 rw[<-u] at G;clear u E;have K:=Hd F;clear F
 go_in
 go_wp2_with fail
 go_loopw [8] (λA wr=>∃a:Nat,a<=s.size/\A=.int .i64 a/\(∀(b:Nat) (j:b<s.size),b<a->fi b s.data[b]=true)/\wr=p) (λA _=>s.size - (intOf A).toNat)
 case atStart=>exact⟨0,aA _,rfl,λb j R=>by omega,rfl⟩
 case round=>
  obtain⟨a,a3,rfl,z,rfl⟩:=hrel;by_cases H:a<s.size
  ·have a1:=K.o a H;have I:=λ(j:fi a s.data[a]=false)=>il (s:=s) (λl=>by have:=l.2.2.1 a H;rw[j] at this;cases this)
   have J:=λ(j:fi a s.data[a]=true) (b:Nat) (v:b<s.size) (a2:b<a+1)=>show fi b s.data[b]=true by
    by_cases e:b=a
    ·subst e;exact j
    ·exact z b v zO
   have n:=Hd I;have t:=Hd J;clear I J z;generalize s.data[a]=d at*;have x:=vX ⟨d.toNat,d.toNat_lt⟩;simp only at x;obtain⟨B,y⟩:∃M,M=bits .or .u8 (d.toNat:Int) 32:=⟨_,rfl⟩;rw[<-y] at x;have g:=Hd x;have a0:=y.symm;clear x y;by_cases C:(d.toNat:Int)=95
   ·have Q:((d.toNat:Int)==95)=true:=by simpa using C
    have m:=Hd (t.o (okAt_iff.2 (by have:=g.o;omega)));go_wp2_with fail
    exact⟨⟨a+1,zO,by go_num,m.o,trivial⟩,by simp[intOf];omega⟩
   ·have Q:((d.toNat:Int)==95)=false:=by simpa using C
    by_cases X:B<97
    ·by_cases k:(a:Int)=0
     ·have r:((a:Int)==0)=true:=by simpa using k
      obtain rfl:a=0:=by omega
      clear k r;have c:f=false:=by rw[i.o,n.o (hQ (by have:=g.o;omega))]
      subst c;go_wp2_with fail
      go_ret;exact⟨rfl,h⟩
     ·have r:((a:Int)==0)=false:=by simpa using k
      by_cases N:(d.toNat:Int)<48
      ·have c:f=false:=by rw[i.o,n.o (hQ (by have:=g.o;omega))]
       subst c;go_wp2_with fail
       go_ret;exact⟨rfl,h⟩
      ·by_cases O:57<(d.toNat:Int)
       ·have c:f=false:=by rw[i.o,n.o (hQ (by have:=g.o;omega))]
        subst c;go_wp2_with fail
        go_ret;exact⟨rfl,h⟩
       ·have m:=Hd (t.o (okAt_iff.2 (by have:=g.o;omega)));go_wp2_with fail
        exact⟨⟨a+1,zO,by go_num,m.o,trivial⟩,by simp[intOf];omega⟩
    ·by_cases Y:122<B
     ·by_cases k:(a:Int)=0
      ·have r:((a:Int)==0)=true:=by simpa using k
       obtain rfl:a=0:=by omega
       clear k r;have c:f=false:=by rw[i.o,n.o (hQ (by have:=g.o;omega))]
       subst c;go_wp2_with fail
       go_ret;exact⟨rfl,h⟩
      ·have r:((a:Int)==0)=false:=by simpa using k
       by_cases N:(d.toNat:Int)<48
       ·have c:f=false:=by rw[i.o,n.o (hQ (by have:=g.o;omega))]
        subst c;go_wp2_with fail
        go_ret;exact⟨rfl,h⟩
       ·by_cases O:57<(d.toNat:Int)
        ·have c:f=false:=by rw[i.o,n.o (hQ (by have:=g.o;omega))]
         subst c;go_wp2_with fail
         go_ret;exact⟨rfl,h⟩
        ·have m:=Hd (t.o (okAt_iff.2 (by have:=g.o;omega)));go_wp2_with fail
         exact⟨⟨a+1,zO,by go_num,m.o,trivial⟩,by simp[intOf];omega⟩
     ·have m:=Hd (t.o (okAt_iff.2 (by have:=g.o;omega)));go_wp2_with fail
      exact⟨⟨a+1,zO,by go_num,m.o,trivial⟩,by simp[intOf];omega⟩
  ·have:a=s.size:=by omega
   subst this;have D:∀(b:Nat) (j:b<s.size),fi b s.data[b]=true:=λb j=>z b j j
   by_cases R:s.size=0
   ·have c:f=false:=by rw[i.o];exact il (λl=>by have:=l.1;omega)
    subst c;have a4:(s.size:Int)=0:=by omega
    go_wp2_with fail
    go_ret;exact⟨rfl,h⟩
   ·by_cases Z:64<s.size
    ·have c:f=false:=by rw[i.o];exact il (λl=>by have:=l.2.1;omega)
     subst c;have U:(0:Int)<s.size:=by omega
     have V:¬(s.size:Int)<=64:=by omega
     go_wp2_with fail
     go_ret;exact⟨rfl,h⟩
    ·have c:f=!jk s:=by
      rw[i.o];cases hw:jk s with
      |true=>exact il (λl=>by rw[l.2.2.2] at hw;cases hw)
      |false=>exact nameOk_iff.2 ⟨zO,zO,D,hw⟩
     have U:(0:Int)<s.size:=by omega
     have V:(s.size:Int)<=64:=by omega
     have L:=Hd c;clear D c;go_wp2_with fail
     refine(wU s wr (S.ext h) T).mono ?_;rintro e a5 ⟨rfl,rfl⟩;go_wp2_with fail
     go_ret;exact⟨by rw[L.o];rfl,h⟩
theorem fB{s:ByteArray}(h:s.size=0):s.toList.isEmpty=true:=by
 rw[ByteArray.toList_eq];have:s.data.toList=[]:=dl (by simpa using h);rw[this];rfl
theorem fw{s:ByteArray}(h:¬s.size=0):s.toList.isEmpty=false:=by
 rw[ByteArray.toList_eq];cases e:s.data.toList with
 |nil=>exact(h (by have:=congrArg List.length e;simpa using this)).elim
 |cons _ _=>rfl

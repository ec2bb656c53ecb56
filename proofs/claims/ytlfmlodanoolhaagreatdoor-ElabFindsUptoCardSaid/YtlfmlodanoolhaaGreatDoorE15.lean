import Derived.Laws.IdiomStrings
import Derived.Test.YtlfmlodanoolhaaGreatDoorE9
import Derived.Test.YtlfmlodanoolhaaGreatDoorE11
set_option linter.all false
set_option maxRecDepth 200000
set_option maxHeartbeats 32000000
namespace Go.Proofs.YtlfmlodanoolhaaGreatDoor
open Go Go.RowKit Go.Proofs.Tryz
attribute [local go_sem] z0f
def LibOk(w:World):Prop:=∃m:Int,w.cell? ⟨5,0,none⟩=some (.int .i64 m)
theorem LibOk.ext{w w':World}(h:LibOk w)(hx:Ext w w'):LibOk w':=by
 obtain⟨m,hm⟩:=h;exact⟨m,hx.at_ hm⟩
theorem k1s(l s:ByteArray)(w:World)(hL:LibOk w)(hl:l.size<4294967281)(hs:s.size<4294967281):
 Calls Tryz.prog 198 #[.string l,.string s] w fun e w'=>e=.returned (.bool (s.data.toList !=[] && (!Lib.contains s.data.toList [32] && Lib.contains l.data.toList (32::(s.data.toList++[32])))))∧w'=w:=by
 obtain⟨m,hm⟩:=hL;obtain⟨r,hr⟩:∃r,r=(s.data.toList !=[] && (!Lib.contains s.data.toList [32] && Lib.contains l.data.toList (32::(s.data.toList++[32])))):=⟨_,rfl⟩;rw[←hr];have R:=Hd hr;clear hr;go_enter func198,ntmps198;by_cases h0:s.toList=[]
 ·have hr:r=false:=by rw[R.o,←ByteArray.toList_eq,h0];rfl
  subst hr;go_wp2_with fail
  go_ret;exact⟨rfl,rfl⟩
 ·have h1:s.data.toList≠[]:=by rw[←ByteArray.toList_eq];exact h0
  have h2:s.toList.isEmpty=false:=by cases h:s.toList with|nil=>exact(h0 h).elim|cons _ _=>rfl
  go_wp2_with fail
  refine(Tryz.strings_Contains _ _ m _ hs hm).mono ?_;rintro e w1 ⟨rfl,rfl⟩;have hb:(s.data.toList !=[])=true:=by simpa using h1
  cases hc:Lib.contains s.data.toList [32] with
  |true=>
   have hr:r=false:=by rw[R.o,hc];simp
   subst hr;simp only[show(⟨#[32]⟩:ByteArray).data.toList=[32] from rfl,hc];go_wp2_with fail
   go_ret;exact⟨rfl,rfl⟩
  |false=>
   have hr:r=Lib.contains l.data.toList (32::(s.data.toList++[32])):=by rw[R.o,hc,hb];simp
   simp only[show(⟨#[32]⟩:ByteArray).data.toList=[32] from rfl,hc];go_wp2_with fail
   refine(Tryz.strings_Contains _ _ m _ hl hm).mono ?_;rintro e w1 ⟨rfl,rfl⟩;go_wp2_with fail
   go_ret;exact⟨by rw[hr];rfl,rfl⟩
theorem k2h(s:ByteArray)(w:World)(hL:LibOk w)(hs:s.size<4294967281):
 Calls Tryz.prog 171 #[.string s] w fun e w'=>e=.returned (.bool (q9f s))∧w'=w:=by
 have hw:=k2g s.data.toList;unfold q9f;rw[←hw];go_enter func171,ntmps171;go_wp2_with fail
 refine(k1s _ s w hL (by decide) hs).mono ?_;rintro e w1 ⟨rfl,rfl⟩;go_wp2_with fail
 go_ret;exact⟨rfl,rfl⟩
theorem k3q:∀n:Fin 256,(bits .or .u8 (n.val:Int) 32<97∨122<bits .or .u8 (n.val:Int) 32)↔¬(97≤n.val∧n.val≤122∨65≤n.val∧n.val≤90):=by decide
theorem z3x(s:ByteArray)(w:World)(hL:LibOk w)(hs:s.size<4294967281):
 Calls Tryz.prog 134 #[.string s] w fun e w'=>e=.returned (.bool (z5t s))∧Ext w w':=by
 obtain⟨r,hr⟩:∃r,r=z5t s:=⟨_,rfl⟩;rw[←hr];have R:=Hd hr;clear hr;have hconv:=run_bytes_of_string w 9 218 5 s (P:=Tryz.prog) (by kernel_rfl) (by kernel_rfl) (by kernel_rfl);obtain⟨cap,hcap⟩:∃c,c=grownCap w s.size 0 5:=⟨_,rfl⟩;rw[←hcap] at hconv;obtain⟨W1,hW1⟩:∃W1,W1=w.drew.alloc (.cells (bytesRow s cap) 5 ((bytesRow s cap).size,(bytesRow s cap).size+1)):=⟨_,rfl⟩;have hx:Ext w W1:=by rw[hW1];exact(y1g w).drew.alloc _
 have hcell:∀(j:Nat) (hj:j<s.data.size),W1.cell? ⟨w.heap.size,j,none⟩=some (.int .u8 (s.data[j].toNat:Int)):=fun j hj=>by
  rw[hW1];exact(World.cell?_alloc_mark w.drew (bytesRow s cap) 5 _ j).trans (bytesRow_at s cap j hj)
 rw[←hW1] at hconv;clear hW1 hcap;have HC:=Hd hcell;clear hcell;go_enter func134,ntmps134;go_wp2_with fail
 go_loopw [8] (fun i wr=>∃k:Nat,k≤s.size∧i=.int .i64 k∧(∀(j:Nat) (h:j<s.size),j<k→k2b j s.data[j]=true)∧wr=W1) (fun i _=>s.size - (intOf i).toNat)
 case atStart=>exact⟨0,y1p _,rfl,fun j h h0=>by omega,rfl⟩
 case round=>
  obtain⟨k,hk,rfl,hpre,rfl⟩:=hrel;by_cases hlt:k<s.size
  ·have hck:=HC.o k hlt;have hno:=fun(h:k2b k s.data[k]=false)=>z8i (s:=s) (fun hn=>by have:=hn.2.2.1 k hlt;rw[h] at this;cases this)
   have hyes:=fun(h:k2b k s.data[k]=true) (j:Nat) (hj:j<s.size) (hjk:j<k+1)=>show k2b j s.data[j]=true by
    by_cases e:j=k
    ·subst e;exact h
    ·exact hpre j hj (by omega)
   have NO:=Hd hno;have YES:=Hd hyes;clear hno hyes hpre;generalize s.data[k]=c at*;have hlow:=k3q ⟨c.toNat,c.toNat_lt⟩;simp only at hlow;obtain⟨bb,hbb⟩:∃b,b=bits .or .u8 (c.toNat:Int) 32:=⟨_,rfl⟩;rw[←hbb] at hlow;have HB:=Hd hlow;have hbb':=hbb.symm;clear hlow hbb;by_cases f0:(c.toNat:Int)=95
   ·have f0b:((c.toNat:Int)==95)=true:=by simpa using f0
    have hnx:=Hd (YES.o (okAt_iff.2 (by have:=HB.o;omega)));go_wp2_with fail
    exact⟨⟨k+1,by omega,by go_num,hnx.o,trivial⟩,by simp[intOf];omega⟩
   ·have f0b:((c.toNat:Int)==95)=false:=by simpa using f0
    by_cases f1:bb<97
    ·by_cases e0:(k:Int)=0
     ·have e0b:((k:Int)==0)=true:=by simpa using e0
      obtain rfl:k=0:=by omega
      clear e0 e0b;have hr:r=false:=by rw[R.o,NO.o (q1n (by have:=HB.o;omega))]
      subst hr;go_wp2_with fail
      go_ret;exact⟨rfl,hx⟩
     ·have e0b:((k:Int)==0)=false:=by simpa using e0
      by_cases e1:(c.toNat:Int)<48
      ·have hr:r=false:=by rw[R.o,NO.o (q1n (by have:=HB.o;omega))]
       subst hr;go_wp2_with fail
       go_ret;exact⟨rfl,hx⟩
      ·by_cases e2:57<(c.toNat:Int)
       ·have hr:r=false:=by rw[R.o,NO.o (q1n (by have:=HB.o;omega))]
        subst hr;go_wp2_with fail
        go_ret;exact⟨rfl,hx⟩
       ·have hnx:=Hd (YES.o (okAt_iff.2 (by have:=HB.o;omega)));go_wp2_with fail
        exact⟨⟨k+1,by omega,by go_num,hnx.o,trivial⟩,by simp[intOf];omega⟩
    ·by_cases f2:122<bb
     ·by_cases e0:(k:Int)=0
      ·have e0b:((k:Int)==0)=true:=by simpa using e0
       obtain rfl:k=0:=by omega
       clear e0 e0b;have hr:r=false:=by rw[R.o,NO.o (q1n (by have:=HB.o;omega))]
       subst hr;go_wp2_with fail
       go_ret;exact⟨rfl,hx⟩
      ·have e0b:((k:Int)==0)=false:=by simpa using e0
       by_cases e1:(c.toNat:Int)<48
       ·have hr:r=false:=by rw[R.o,NO.o (q1n (by have:=HB.o;omega))]
        subst hr;go_wp2_with fail
        go_ret;exact⟨rfl,hx⟩
       ·by_cases e2:57<(c.toNat:Int)
        ·have hr:r=false:=by rw[R.o,NO.o (q1n (by have:=HB.o;omega))]
         subst hr;go_wp2_with fail
         go_ret;exact⟨rfl,hx⟩
        ·have hnx:=Hd (YES.o (okAt_iff.2 (by have:=HB.o;omega)));go_wp2_with fail
         exact⟨⟨k+1,by omega,by go_num,hnx.o,trivial⟩,by simp[intOf];omega⟩
     ·have hnx:=Hd (YES.o (okAt_iff.2 (by have:=HB.o;omega)));go_wp2_with fail
      exact⟨⟨k+1,by omega,by go_num,hnx.o,trivial⟩,by simp[intOf];omega⟩
  ·have:k=s.size:=by omega
   subst this;have hall:∀(j:Nat) (h:j<s.size),k2b j s.data[j]=true:=fun j h=>hpre j h h
   by_cases h0:s.size=0
   ·have hr:r=false:=by rw[R.o];exact z8i (fun hn=>by have:=hn.1;omega)
    subst hr;have hz:(s.size:Int)=0:=by omega
    go_wp2_with fail
    go_ret;exact⟨rfl,hx⟩
   ·by_cases h1:64<s.size
    ·have hr:r=false:=by rw[R.o];exact z8i (fun hn=>by have:=hn.2.1;omega)
     subst hr;have hz1:(0:Int)<s.size:=by omega
     have hz2:¬(s.size:Int)≤64:=by omega
     go_wp2_with fail
     go_ret;exact⟨rfl,hx⟩
    ·have hr:r=!q9f s:=by
      rw[R.o];cases hw:q9f s with
      |true=>exact z8i (fun hn=>by rw[hn.2.2.2] at hw;cases hw)
      |false=>exact nameOk_iff.2 ⟨by omega,by omega,hall,hw⟩
     have hz1:(0:Int)<s.size:=by omega
     have hz2:(s.size:Int)≤64:=by omega
     have KR:=Hd hr;clear hall hr;go_wp2_with fail
     refine(k2h s wr (hL.ext hx) hs).mono ?_;rintro e w1 ⟨rfl,rfl⟩;go_wp2_with fail
     go_ret;exact⟨by rw[KR.o];rfl,hx⟩
theorem z3b{s:ByteArray}(h:s.size=0):s.toList.isEmpty=true:=by
 rw[ByteArray.toList_eq];have:s.data.toList=[]:=y1q (by simpa using h);rw[this];rfl
theorem z4a{s:ByteArray}(h:¬s.size=0):s.toList.isEmpty=false:=by
 rw[ByteArray.toList_eq];cases e:s.data.toList with
 |nil=>exact(h (by have:=congrArg List.length e;simpa using this)).elim
 |cons _ _=>rfl
end Go.Proofs.YtlfmlodanoolhaaGreatDoor

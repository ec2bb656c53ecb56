import Derived.Test.YtlfmlodanoolhaaGreatDoorE16
import Derived.Test.YtlfmlodanoolhaaGreatDoorE27
set_option linter.all false
set_option maxRecDepth 200000
set_option maxHeartbeats 32000000
namespace Go.Proofs.YtlfmlodanoolhaaGreatDoor
open Go Go.RowKit Go.Proofs.Tryz
attribute [local go_sem] z0f
theorem q5x(fk:Nat)(hcall:Enters Tryz.prog fk)(P:Mdl→Prop)(caps:Value)(B:Nat)(l:List Mdl)(w:World)
 (hf:∀x,x∈l→∀(w':World) (cs:List Value),Ext w w'→RM w' B x cs→B≤w'.heap.size→Calls Tryz.prog fk #[.agg cs.toArray,caps] w' fun e w''=>e=.returned (.bool (yes (P x)))∧Ext w' w'')
 (v:Value) (hS:Sl (RM w B) w B 4 l v) (hB:B≤w.heap.size) (hsz:l.length≤1000000000):
 Calls Tryz.prog 65 #[v,.func (.func fk) #[] #[caps]] w fun e w'=>Ext w w'∧
  ((∃i,∃h:i<l.length,P l[i]∧(∀j,∀h':j<l.length,j<i→¬P l[j])∧e=.returned (.int .i64 i))∨((∀x,x∈l→¬P x)∧e=.returned (.int .i64 (-1)))):=by
 obtain⟨a,cap,rfl,hcap,hrow⟩:=hS;have HF:=Hd hf;have hcf:=hcall.o;clear hf hcall hcap;go_enter func65,ntmps65;go_wp2_with fail
 go_loopw [8] (fun i wr=>∃k:Nat,k≤l.length∧i=.int .i64 k∧(∀j,∀h':j<l.length,j<k→¬P l[j])∧Ext w wr) (fun i _=>l.length - (intOf i).toNat)
 case atStart=>exact⟨0,y1p _,rfl,fun j h' hj=>absurd hj (by omega),y1g _⟩
 case round=>
  obtain⟨k,hk,rfl,hpre,hx⟩:=hrel;have HP:=Hd hpre;clear hpre;by_cases hlt:k<l.length
  ·have hfk:=Hd (HF.o l[k] (y1l hlt));obtain⟨b,o,v0,v1,v2,v3,rfl,hbB,hR,hC,o0,o1,o2,o3⟩:=hrow.open4 hlt;obtain⟨d0,d1,d2,d3⟩:=(hC.ext hx).get4;have hRx:=Hd (hR.ext hx hB);have hBw:=Hd (y1k hB hx.size);have HX:=Hd hx;clear hC hrow hR HF hx;go_wp2_with fail
   refine(hfk.o _ _ HX.o hRx.o hBw.o).mono ?_;rintro e w1 ⟨rfl,hy⟩;have hx9:=Hd (HX.o.trans hy);by_cases hq:P l[k]
   ·rw[yes_iff.2 hq];have FIN:=Hd (show∃i,∃h:i<l.length,P l[i]∧(∀j,∀h':j<l.length,j<i→¬P l[j])∧(k:Int)=i from⟨k,hlt,hq,HP.o,rfl⟩);clear hq hy hfk hRx;go_wp2_with fail
    go_ret;obtain⟨i,h,h1,h2,h3⟩:=FIN.o;exact⟨hx9.o,.inl ⟨i,h,h1,h2,by rw[h3];rfl⟩⟩
   ·rw[yes_no.2 hq];have HN:=Hd (show∀j,∀h':j<l.length,j<k+1→¬P l[j] from fun j h' hj=>if e:j=k then by subst e;exact hq else HP.o j h' (by omega));clear hq hy hfk hRx;go_wp2_with fail
    go_roundw;case rel=>exact⟨k+1,by omega,by go_num,HN.o,hx9.o⟩
    case measure=>simp[intOf];omega
  ·have hkl:k=l.length:=by omega
   subst hkl;have FIN:=Hd (show∀x,x∈l→¬P x from fun x hx=>by obtain⟨j,hj,rfl⟩:=List.getElem_of_mem hx;exact HP.o j hj hj);go_wp2_with fail
   go_ret;exact⟨hx,.inr ⟨FIN.o,rfl⟩⟩
theorem j5v(fk:Nat)(hcall:Enters Tryz.prog fk)(P:ByteArray→Prop)(caps:Value)(l:List ByteArray)(w:World)
 (hf:∀x,x∈l→∀(w':World),Ext w w'→Calls Tryz.prog fk #[.string x,caps] w' fun e w''=>e=.returned (.bool (yes (P x)))∧Ext w' w'')
 (v:Value) (hS:SStr w l v) (hsz:l.length≤1000000000):
 Calls Tryz.prog 97 #[v,.func (.func fk) #[] #[caps]] w fun e w'=>Ext w w'∧
  ((∃i,∃h:i<l.length,P l[i]∧(∀j,∀h':j<l.length,j<i→¬P l[j])∧e=.returned (.int .i64 i))∨((∀x,x∈l→¬P x)∧e=.returned (.int .i64 (-1)))):=by
 obtain⟨a,cap,rfl,hcap,hrow⟩:=hS;have HF:=Hd hf;have HROW:=Hd hrow;have hcf:=hcall.o;clear hf hcall hcap hrow;go_enter func97,ntmps97;go_wp2_with fail
 go_loopw [8] (fun i wr=>∃k:Nat,k≤l.length∧i=.int .i64 k∧(∀j,∀h':j<l.length,j<k→¬P l[j])∧Ext w wr) (fun i _=>l.length - (intOf i).toNat)
 case atStart=>exact⟨0,y1p _,rfl,fun j h' hj=>absurd hj (by omega),y1g _⟩
 case round=>
  obtain⟨k,hk,rfl,hpre,hx⟩:=hrel;have HP:=Hd hpre;clear hpre;by_cases hlt:k<l.length
  ·have hfk:=Hd (HF.o l[k] (y1l hlt));obtain⟨b,o,rfl,hcell⟩:=HROW.o k hlt;have d0:=hx.at_ hcell;have HX:=Hd hx;clear hcell HF hx HROW;by_cases hq:P l[k]
   ·rw[yes_iff.2 hq] at hfk;have FIN:=Hd (show∃i,∃h:i<l.length,P l[i]∧(∀j,∀h':j<l.length,j<i→¬P l[j])∧(k:Int)=i from⟨k,hlt,hq,HP.o,rfl⟩);clear hq;go_wp2_with fail
    refine(hfk.o _ HX.o).mono ?_;rintro e w1 ⟨rfl,hy⟩;have hx9:=Hd (HX.o.trans hy);clear hy hfk;go_wp2_with fail
    go_ret;obtain⟨i,h,h1,h2,h3⟩:=FIN.o;exact⟨hx9.o,.inl ⟨i,h,h1,h2,by rw[h3];rfl⟩⟩
   ·rw[yes_no.2 hq] at hfk;have HN:=Hd (show∀j,∀h':j<l.length,j<k+1→¬P l[j] from fun j h' hj=>if e:j=k then by subst e;exact hq else HP.o j h' (by omega));clear hq;go_wp2_with fail
    refine(hfk.o _ HX.o).mono ?_;rintro e w1 ⟨rfl,hy⟩;have hx9:=Hd (HX.o.trans hy);clear hy hfk;go_wp2_with fail
    go_roundw;case rel=>exact⟨k+1,by omega,by go_num,HN.o,hx9.o⟩
    case measure=>simp[intOf];omega
  ·have hkl:k=l.length:=by omega
   subst hkl;have FIN:=Hd (show∀x,x∈l→¬P x from fun x hx=>by obtain⟨j,hj,rfl⟩:=List.getElem_of_mem hx;exact HP.o j hj hj);go_wp2_with fail
   go_ret;exact⟨hx,.inr ⟨FIN.o,rfl⟩⟩
theorem z7n(fk:Nat)(hcall:Enters Tryz.prog fk)(P:ByteArray→Prop)(caps:Value)(l:List ByteArray)(w:World)
 (hf:∀x,x∈l→∀(w':World),Ext w w'→Calls Tryz.prog fk #[.string x,caps] w' fun e w''=>e=.returned (.bool (yes (P x)))∧Ext w' w'')
 (v:Value) (hS:SStr w l v) (hsz:l.length≤1000000000):
 Calls Tryz.prog 61 #[v,.func (.func fk) #[] #[caps]] w fun e w'=>e=.returned (.bool (yes (∃x,x∈l∧P x)))∧Ext w w':=by
 have KI:=Hd (j5v fk hcall P caps l w hf v hS hsz);clear hf hcall hS hsz;go_enter func61,ntmps61;go_wp2_with fail
 go_at_call 97;refine KI.o.mono ?_;rintro _ w1 ⟨hx,(⟨i,h,h1,-,rfl⟩|⟨h1,rfl⟩)⟩
 ·have R:=Hd (yes_iff.2 (show∃x,x∈l∧P x from⟨l[i],y1l h,h1⟩));clear h1;go_wp2_with fail
  go_ret;exact⟨by rw[R.o];rfl,hx⟩
 ·have R:=Hd (yes_no.2 (show¬∃x,x∈l∧P x from fun⟨x,hx,hp⟩=>h1 x hx hp));clear h1;go_wp2_with fail
  go_ret;exact⟨by rw[R.o];rfl,hx⟩
theorem j2f:Enters Tryz.prog 66:=⟨fun _ _=>by kernel_rfl⟩
theorem j1w(B:Nat)(m:Mdl)(s:ByteArray)(p:Addr)(w:World)(cs:List Value)(hR:RM w B m cs)(hp:w.cell? p=some (.string s))(hlt:p.block<w.heap.size):
 Calls Tryz.prog 66 #[.agg cs.toArray,.pointer (some p)] w fun e w'=>e=.returned (.bool (yes (m.name=s)))∧Ext w w':=by
 obtain⟨v1,v2,v3,rfl,hp1,hq1,hi1⟩:=hR;have o1:=hp1.oneCell;have o2:=hq1.oneCell;have o3:=hi1.oneCell;obtain⟨W1,e1,hV1,hx1,hz1,c0,c1,c2,c3⟩:=q2c w (.string m.name) v1 v2 v3 30;have hp2:e1.w.cell? p=some (.string s):=((hx1.trans e1.ext).cell hlt).trans hp;have HX:=Hd (hx1.trans e1.ext);clear hp1 hq1 hi1 hx1 hz1 hp hlt;by_cases h:m.name=s
 ·rw[yes_iff.2 h];subst h;go_enter func66,ntmps66
  go_wp2
  go_ret;exact⟨rfl,HX.o⟩
 ·rw[yes_no.2 h];have hne:=q1c h;clear h;go_enter func66,ntmps66
  go_wp2
  go_ret;exact⟨rfl,HX.o⟩
def k2e:Mdl:=⟨⟨#[]⟩,[],[],[]⟩
theorem q7a{f:List Mdl}{s:ByteArray}{i:Nat}(h:i<f.length)(h1:f[i].name=s)(h2:∀j,∀h':j<f.length,j<i→¬f[j].name=s):z5z f s=some f[i]:=by
 unfold z5z;rw[List.find?_eq_some_iff_getElem];exact⟨yes_iff.2 h1,i,h,rfl,fun j hj=>by rw[yes_no.2 (h2 j (by omega) hj)];rfl⟩
theorem j4a{f:List Mdl}{s:ByteArray}(h:∀x,x∈f→¬x.name=s):z5z f s=none:=by
 unfold z5z;exact List.find?_eq_none.2 fun x hx hc=>h x hx (yes_iff.1 hc)
theorem j3z(B:Nat)(f:List Mdl)(s:ByteArray)(w:World)(vf:Value)(hS:Sl (RM w B) w B 4 f vf)(hB:B≤w.heap.size)(hsz:f.length≤1000000000):
 Calls Tryz.prog 33 #[.agg #[vf],.string s] w fun e w'=>∃c0 c1 c2 c3,e=.returned (.tuple #[.agg #[c0,c1,c2,c3],.bool (z5z f s).isSome])∧RM w' B ((z5z f s).getD k2e) [c0,c1,c2,c3]∧Ext w w':=by
 have HS:=Hd hS;obtain⟨a,cap,rfl,hcap,hrow⟩:=hS;have HROW:=Hd hrow;obtain⟨W1,e1,hV1,hx1,-,a0⟩:=k5b w (.slice a f.length cap) 24;obtain⟨W2,e2,hV2,hx2,hz2,b0⟩:=k5b e1.w (.string s) 9;have q12:=e1.ext.trans hx2;have q02:=hx1.trans q12;have a0:=z0k a0 q12;obtain⟨W3,hW3,hx3,hb3⟩:=q2d e2.w (.string ⟨#[]⟩) (.slice none 0 0) (.slice none 0 0) (.slice none 0 0) 30;obtain⟨e3,he3⟩:=y1h (y1g W3);have hV3:=hW3.symm.trans he3;have q23:=e2.ext.trans hx3;have q03:=q02.trans q23;have a0:=z0k a0 q23;have b0:=z0k b0 q23;have hlt1:e1.w.heap.size<W3.heap.size:=by have:=q23.size;omega
 have hge:w.heap.size≤e2.w.heap.size:=(q02.trans e2.ext).size;have Q03:=Hd q03;have HB3:=Hd hb3;have hB3:B≤W3.heap.size:=y1k hB q03.size;have hmf:=@hmf_ Tryz.prog
 have KI:=Hd (q5x 66 j2f (fun m=>m.name=s) (.pointer (some ⟨e1.w.heap.size,0,none⟩)) B f e3.w
  (fun x hx w' cs hw hR hB'=>j1w B x s ⟨e1.w.heap.size,0,none⟩ w' cs hR (b0 ⟨w',e3.ext.trans hw⟩) (y1m hlt1 (e3.ext.trans hw).size))
  (.slice a f.length cap) (HS.o.extRM (q03.trans e3.ext) hB) (y1k hB3 e3.ext.size) hsz)
 clear hcap hrow hx1 hx2 hz2 q12 q02 hW3 hx3 hb3 he3 q23 q03 hlt1 HS b0;go_enter func33,ntmps33;go_wp2_with fail
 go_at_call 65;refine KI.o.mono ?_;rintro _ w1 ⟨hx,(⟨i,h,h1,h2,rfl⟩|⟨h1,rfl⟩)⟩
 ·obtain⟨e4,rfl⟩:=y1h (e3.ext.trans hx);obtain⟨b,o,v0,v1,v2,v3,rfl,hbB,hR,hC,o0,o1,o2,o3⟩:=HROW.o.open4 h;obtain⟨d0,d1,d2,d3⟩:=(hC.ext (Q03.o.trans e4.ext)).get4;have hb4:=HB3.o.ext e4.ext;obtain⟨m0,m1,m2,m3⟩:=hb4.get4;obtain⟨n0,n1,n2,n3⟩:=hb4.free4;have hb5:=hb4.store4 v0 v1 v2 v3;obtain⟨r0,r1,r2,r3⟩:=hb5.get4;have hx5:Ext w ((((e4.w.setCell ⟨e2.w.heap.size,0,none⟩ v0).setCell ⟨e2.w.heap.size,1,none⟩ v1).setCell ⟨e2.w.heap.size,2,none⟩ v2).setCell ⟨e2.w.heap.size,3,none⟩ v3):=((((Q03.o.trans e4.ext).setCell hge _).setCell hge _).setCell hge _).setCell hge _;have FIN:=Hd (y1x (hR.ext hx5 hB) hx5);have FM:=Hd (q7a h h1 h2);have hnn:decide ((i:Int)<0)=false:=decide_eq_false (by omega);have hil:(i:Int)<(f.length:Nat):=by omega
  clear hC hR hb4 hb5 hx5 hx h1 h2 KI HROW;go_wp2_with fail
  refine bodyPost_ret (v:=.tuple #[.agg #[v0,v1,v2,v3],.bool true]) ?_ rfl ⟨v0,v1,v2,v3,by rw[FM.o];rfl,by rw[FM.o];exact FIN.o.1,FIN.o.2⟩;simp[results,results33,go_sem,r0,r1,r2,r3]
 ·obtain⟨e4,rfl⟩:=y1h (e3.ext.trans hx);have hb4:=HB3.o.ext e4.ext;obtain⟨m0,m1,m2,m3⟩:=hb4.get4;obtain⟨n0,n1,n2,n3⟩:=hb4.free4;have hb5:=hb4.store4 (.string ⟨#[]⟩) (.slice none 0 0) (.slice none 0 0) (.slice none 0 0);obtain⟨r0,r1,r2,r3⟩:=hb5.get4;have hx5:Ext w ((((e4.w.setCell ⟨e2.w.heap.size,0,none⟩ (.string ⟨#[]⟩)).setCell ⟨e2.w.heap.size,1,none⟩ (.slice none 0 0)).setCell ⟨e2.w.heap.size,2,none⟩ (.slice none 0 0)).setCell ⟨e2.w.heap.size,3,none⟩ (.slice none 0 0)):=((((Q03.o.trans e4.ext).setCell hge _).setCell hge _).setCell hge _).setCell hge _;have FIN:=Hd hx5;have FM:=Hd (j4a h1);clear hb4 hb5 hx5 hx h1 KI HROW;go_wp2_with fail
  refine bodyPost_ret (v:=.tuple #[.agg #[.string ⟨#[]⟩,.slice none 0 0,.slice none 0 0,.slice none 0 0],.bool false]) ?_ rfl ⟨_,_,_,_,by rw[FM.o];rfl,by rw[FM.o];exact⟨_,_,_,rfl,y2c,y2c,y2c⟩,FIN.o⟩;simp[results,results33,go_sem,r0,r1,r2,r3]
end Go.Proofs.YtlfmlodanoolhaaGreatDoor
namespace Go.Proofs.YtlfmlodanoolhaaGreatDoor
open Go Go.RowKit Go.Proofs.Tryz
theorem q6b{f:List Mdl}{s:ByteArray}{m:Mdl}(h:z5z f s=some m):m∈f∧m.name=s:=by
 unfold z5z at h;have h2:=List.find?_some h;exact⟨List.mem_of_find?_eq_some h,yes_iff.1 h2⟩
end Go.Proofs.YtlfmlodanoolhaaGreatDoor
namespace Go.Proofs.YtlfmlodanoolhaaGreatDoor
open Go Go.RowKit Go.Proofs.Tryz
attribute [local go_sem] z0f
theorem len7{cs:List Value}(h:cs.length=7):∃v0 v1 v2 v3 v4 v5 v6,cs=[v0,v1,v2,v3,v4,v5,v6]:=by
 match cs,h with
 |[v0,v1,v2,v3,v4,v5,v6],_=>exact⟨v0,v1,v2,v3,v4,v5,v6,rfl⟩
theorem len8{cs:List Value}(h:cs.length=8):∃v0 v1 v2 v3 v4 v5 v6 v7,cs=[v0,v1,v2,v3,v4,v5,v6,v7]:=by
 match cs,h with
 |[v0,v1,v2,v3,v4,v5,v6,v7],_=>exact⟨v0,v1,v2,v3,v4,v5,v6,v7,rfl⟩
theorem j5y(fk:Nat)(hcall:Enters Tryz.prog fk)(P:Bnd→Prop)(caps:Value)(B:Nat)(l:List Bnd)(w:World)
 (hf:∀x,x∈l→∀(w':World) (cs:List Value),Ext w w'→RB w' B x cs→B≤w'.heap.size→Calls Tryz.prog fk #[.agg cs.toArray,caps] w' fun e w''=>e=.returned (.bool (yes (P x)))∧Ext w' w'')
 (v:Value) (hS:Sl (RB w B) w B 7 l v) (hB:B≤w.heap.size) (hsz:l.length≤1000000000):
 Calls Tryz.prog 102 #[v,.func (.func fk) #[] #[caps]] w fun e w'=>Ext w w'∧
  ((∃i,∃h:i<l.length,P l[i]∧(∀j,∀h':j<l.length,j<i→¬P l[j])∧e=.returned (.int .i64 i))∨((∀x,x∈l→¬P x)∧e=.returned (.int .i64 (-1)))):=by
 obtain⟨a,cap,rfl,hcap,hrow⟩:=hS;have HF:=Hd hf;have hcf:=hcall.o;clear hf hcall hcap;go_enter func102,ntmps102;go_wp2_with fail
 go_loopw [8] (fun i wr=>∃k:Nat,k≤l.length∧i=.int .i64 k∧(∀j,∀h':j<l.length,j<k→¬P l[j])∧Ext w wr) (fun i _=>l.length - (intOf i).toNat)
 case atStart=>exact⟨0,y1p _,rfl,fun j h' hj=>absurd hj (by omega),y1g _⟩
 case round=>
  obtain⟨k,hk,rfl,hpre,hx⟩:=hrel;have HP:=Hd hpre;clear hpre;by_cases hlt:k<l.length
  ·have hfk:=Hd (HF.o l[k] (y1l hlt));obtain⟨b,o,cs,rfl,hbB,hcl,hC,ho1,hR⟩:=hrow _ hlt;obtain⟨v0,v1,v2,v3,v4,v5,v6,rfl⟩:=len7 hcl;have o0:=ho1 v0 (by simp);have o1:=ho1 v1 (by simp);have o2:=ho1 v2 (by simp);have o3:=ho1 v3 (by simp);have o4:=ho1 v4 (by simp);have o5:=ho1 v5 (by simp);have o6:=ho1 v6 (by simp);obtain⟨d0,d1,d2,d3,d4,d5,d6⟩:=(hC.ext hx).get7;have hRx:=Hd (RB.ext hR hx hB);have hBw:=Hd (y1k hB hx.size);have HX:=Hd hx;clear hC ho1 hcl hrow hR HF hx;go_wp2_with fail
   refine(hfk.o _ _ HX.o hRx.o hBw.o).mono ?_;rintro e w1 ⟨rfl,hy⟩;have hx9:=Hd (HX.o.trans hy);by_cases hq:P l[k]
   ·rw[yes_iff.2 hq];have FIN:=Hd (show∃i,∃h:i<l.length,P l[i]∧(∀j,∀h':j<l.length,j<i→¬P l[j])∧(k:Int)=i from⟨k,hlt,hq,HP.o,rfl⟩);clear hq hy hfk hRx;go_wp2_with fail
    go_ret;obtain⟨i,h,h1,h2,h3⟩:=FIN.o;exact⟨hx9.o,.inl ⟨i,h,h1,h2,by rw[h3];rfl⟩⟩
   ·rw[yes_no.2 hq];have HN:=Hd (show∀j,∀h':j<l.length,j<k+1→¬P l[j] from fun j h' hj=>if e:j=k then by subst e;exact hq else HP.o j h' (by omega));clear hq hy hfk hRx;go_wp2_with fail
    go_roundw;case rel=>exact⟨k+1,by omega,by go_num,HN.o,hx9.o⟩
    case measure=>simp[intOf];omega
  ·have hkl:k=l.length:=by omega
   subst hkl;have FIN:=Hd (show∀x,x∈l→¬P x from fun x hx=>by obtain⟨j,hj,rfl⟩:=List.getElem_of_mem hx;exact HP.o j hj hj);go_wp2_with fail
   go_ret;exact⟨hx,.inr ⟨FIN.o,rfl⟩⟩
theorem q7j(fk:Nat)(hcall:Enters Tryz.prog fk)(P:Bnd→Prop)(caps:Value)(B:Nat)(l:List Bnd)(w:World)
 (hf:∀x,x∈l→∀(w':World) (cs:List Value),Ext w w'→RB w' B x cs→B≤w'.heap.size→Calls Tryz.prog fk #[.agg cs.toArray,caps] w' fun e w''=>e=.returned (.bool (yes (P x)))∧Ext w' w'')
 (v:Value) (hS:Sl (RB w B) w B 7 l v) (hB:B≤w.heap.size) (hsz:l.length≤1000000000):
 Calls Tryz.prog 69 #[v,.func (.func fk) #[] #[caps]] w fun e w'=>e=.returned (.bool (yes (∃x,x∈l∧P x)))∧Ext w w':=by
 have KI:=Hd (j5y fk hcall P caps B l w hf v hS hB hsz);clear hf hcall hS hsz;go_enter func69,ntmps69;go_wp2_with fail
 go_at_call 102;refine KI.o.mono ?_;rintro _ w1 ⟨hx,(⟨i,h,h1,-,rfl⟩|⟨h1,rfl⟩)⟩
 ·have R:=Hd (yes_iff.2 (show∃x,x∈l∧P x from⟨l[i],y1l h,h1⟩));clear h1;go_wp2_with fail
  go_ret;exact⟨by rw[R.o];rfl,hx⟩
 ·have R:=Hd (yes_no.2 (show¬∃x,x∈l∧P x from fun⟨x,hx,hp⟩=>h1 x hx hp));clear h1;go_wp2_with fail
  go_ret;exact⟨by rw[R.o];rfl,hx⟩
theorem j5w(fk:Nat)(hcall:Enters Tryz.prog fk)(P:Prt→Prop)(caps:Value)(B:Nat)(l:List Prt)(w:World)
 (hf:∀x,x∈l→∀(w':World) (cs:List Value),Ext w w'→RP w' B x cs→B≤w'.heap.size→Calls Tryz.prog fk #[.agg cs.toArray,caps] w' fun e w''=>e=.returned (.bool (yes (P x)))∧Ext w' w'')
 (v:Value) (hS:Sl (RP w B) w B 8 l v) (hB:B≤w.heap.size) (hsz:l.length≤1000000000):
 Calls Tryz.prog 192 #[v,.func (.func fk) #[] #[caps]] w fun e w'=>Ext w w'∧
  ((∃i,∃h:i<l.length,P l[i]∧(∀j,∀h':j<l.length,j<i→¬P l[j])∧e=.returned (.int .i64 i))∨((∀x,x∈l→¬P x)∧e=.returned (.int .i64 (-1)))):=by
 obtain⟨a,cap,rfl,hcap,hrow⟩:=hS;have HF:=Hd hf;have hcf:=hcall.o;clear hf hcall hcap;go_enter func192,ntmps192;go_wp2_with fail
 go_loopw [8] (fun i wr=>∃k:Nat,k≤l.length∧i=.int .i64 k∧(∀j,∀h':j<l.length,j<k→¬P l[j])∧Ext w wr) (fun i _=>l.length - (intOf i).toNat)
 case atStart=>exact⟨0,y1p _,rfl,fun j h' hj=>absurd hj (by omega),y1g _⟩
 case round=>
  obtain⟨k,hk,rfl,hpre,hx⟩:=hrel;have HP:=Hd hpre;clear hpre;by_cases hlt:k<l.length
  ·have hfk:=Hd (HF.o l[k] (y1l hlt));obtain⟨b,o,cs,rfl,hbB,hcl,hC,ho1,hR⟩:=hrow _ hlt;obtain⟨v0,v1,v2,v3,v4,v5,v6,v7,rfl⟩:=len8 hcl;have o0:=ho1 v0 (by simp);have o1:=ho1 v1 (by simp);have o2:=ho1 v2 (by simp);have o3:=ho1 v3 (by simp);have o4:=ho1 v4 (by simp);have o5:=ho1 v5 (by simp);have o6:=ho1 v6 (by simp);have o7:=ho1 v7 (by simp);obtain⟨d0,d1,d2,d3,d4,d5,d6,d7⟩:=(hC.ext hx).get8;have hRx:=Hd (RP.ext hR hx hB);have hBw:=Hd (y1k hB hx.size);have HX:=Hd hx;clear hC ho1 hcl hrow hR HF hx;go_wp2_with fail
   refine(hfk.o _ _ HX.o hRx.o hBw.o).mono ?_;rintro e w1 ⟨rfl,hy⟩;have hx9:=Hd (HX.o.trans hy);by_cases hq:P l[k]
   ·rw[yes_iff.2 hq];have FIN:=Hd (show∃i,∃h:i<l.length,P l[i]∧(∀j,∀h':j<l.length,j<i→¬P l[j])∧(k:Int)=i from⟨k,hlt,hq,HP.o,rfl⟩);clear hq hy hfk hRx;go_wp2_with fail
    go_ret;obtain⟨i,h,h1,h2,h3⟩:=FIN.o;exact⟨hx9.o,.inl ⟨i,h,h1,h2,by rw[h3];rfl⟩⟩
   ·rw[yes_no.2 hq];have HN:=Hd (show∀j,∀h':j<l.length,j<k+1→¬P l[j] from fun j h' hj=>if e:j=k then by subst e;exact hq else HP.o j h' (by omega));clear hq hy hfk hRx;go_wp2_with fail
    go_roundw;case rel=>exact⟨k+1,by omega,by go_num,HN.o,hx9.o⟩
    case measure=>simp[intOf];omega
  ·have hkl:k=l.length:=by omega
   subst hkl;have FIN:=Hd (show∀x,x∈l→¬P x from fun x hx=>by obtain⟨j,hj,rfl⟩:=List.getElem_of_mem hx;exact HP.o j hj hj);go_wp2_with fail
   go_ret;exact⟨hx,.inr ⟨FIN.o,rfl⟩⟩
theorem q7i(fk:Nat)(hcall:Enters Tryz.prog fk)(P:Prt→Prop)(caps:Value)(B:Nat)(l:List Prt)(w:World)
 (hf:∀x,x∈l→∀(w':World) (cs:List Value),Ext w w'→RP w' B x cs→B≤w'.heap.size→Calls Tryz.prog fk #[.agg cs.toArray,caps] w' fun e w''=>e=.returned (.bool (yes (P x)))∧Ext w' w'')
 (v:Value) (hS:Sl (RP w B) w B 8 l v) (hB:B≤w.heap.size) (hsz:l.length≤1000000000):
 Calls Tryz.prog 154 #[v,.func (.func fk) #[] #[caps]] w fun e w'=>e=.returned (.bool (yes (∃x,x∈l∧P x)))∧Ext w w':=by
 have KI:=Hd (j5w fk hcall P caps B l w hf v hS hB hsz);clear hf hcall hS hsz;go_enter func154,ntmps154;go_wp2_with fail
 go_at_call 192;refine KI.o.mono ?_;rintro _ w1 ⟨hx,(⟨i,h,h1,-,rfl⟩|⟨h1,rfl⟩)⟩
 ·have R:=Hd (yes_iff.2 (show∃x,x∈l∧P x from⟨l[i],y1l h,h1⟩));clear h1;go_wp2_with fail
  go_ret;exact⟨by rw[R.o];rfl,hx⟩
 ·have R:=Hd (yes_no.2 (show¬∃x,x∈l∧P x from fun⟨x,hx,hp⟩=>h1 x hx hp));clear h1;go_wp2_with fail
  go_ret;exact⟨by rw[R.o];rfl,hx⟩
theorem j2e:Enters Tryz.prog 70:=⟨fun _ _=>by kernel_rfl⟩
theorem j6h:Enters Tryz.prog 68:=⟨fun _ _=>by kernel_rfl⟩
theorem j2d:Enters Tryz.prog 155:=⟨fun _ _=>by kernel_rfl⟩
theorem j6g:Enters Tryz.prog 153:=⟨fun _ _=>by kernel_rfl⟩
theorem j9z(B:Nat)(x:Bnd)(s:ByteArray)(p:Addr)(w:World)(cs:List Value)(hR:RB w B x cs)(hp:w.cell? p=some (.string s))(hlt:p.block<w.heap.size):
 Calls Tryz.prog 70 #[.agg cs.toArray,.pointer (some p)] w fun e w'=>e=.returned (.bool (yes (x.name=s)))∧Ext w w':=by
 obtain⟨c,rfl,hx⟩:=hR;obtain⟨x5,rfl,h5⟩:=RX_iff.1 hx;have o5:=h5.oneCell;obtain⟨W1,hW1,hx1,hb1⟩:=k5c w (.string x.name) (.int .i64 x.x.op) (.string x.x.name) (.int .i64 x.x.n) (.int .i64 x.x.w) (.int .u64 x.x.v) x5 45;have hV1:=hW1.symm;obtain⟨c0,c1,c2,c3,c4,c5,c6⟩:=hb1.get7;have hp2:W1.cell? p=some (.string s):=(hx1.cell hlt).trans hp;have HX:=Hd hx1;clear hW1 hb1 hx1 hp hlt h5 hx;by_cases h:x.name=s
 ·rw[yes_iff.2 h];subst h;go_enter func70,ntmps70;go_wp2_with fail
  go_ret;exact⟨rfl,HX.o⟩
 ·rw[yes_no.2 h];have hne:=q1c h;clear h;go_enter func70,ntmps70;go_wp2_with fail
  go_ret;exact⟨rfl,HX.o⟩
theorem j8l(B:Nat)(x:Prt)(s:ByteArray)(p:Addr)(w:World)(cs:List Value)(hR:RP w B x cs)(hp:w.cell? p=some (.string s))(hlt:p.block<w.heap.size):
 Calls Tryz.prog 155 #[.agg cs.toArray,.pointer (some p)] w fun e w'=>e=.returned (.bool (yes (x.name=s)))∧Ext w w':=by
 obtain⟨c,rfl,hx⟩:=hR;obtain⟨x5,rfl,h5⟩:=RX_iff.1 hx;have o5:=h5.oneCell;obtain⟨W1,hW1,hx1,hb1⟩:=q7r w (.string x.name) (.bool x.o) (.int .i64 x.w.op) (.string x.w.name) (.int .i64 x.w.n) (.int .i64 x.w.w) (.int .u64 x.w.v) x5 42;have hV1:=hW1.symm;obtain⟨c0,c1,c2,c3,c4,c5,c6,c7⟩:=hb1.get8;have hp2:W1.cell? p=some (.string s):=(hx1.cell hlt).trans hp;have HX:=Hd hx1;clear hW1 hb1 hx1 hp hlt h5 hx;by_cases h:x.name=s
 ·rw[yes_iff.2 h];subst h;go_enter func155,ntmps155;go_wp2_with fail
  go_ret;exact⟨rfl,HX.o⟩
 ·rw[yes_no.2 h];have hne:=q1c h;clear h;go_enter func155,ntmps155;go_wp2_with fail
  go_ret;exact⟨rfl,HX.o⟩
theorem q8z(B:Nat)(l:List Bnd)(v1:Value)(nm:ByteArray)(ob:Nat)(w:World)(hc:w.cell? ⟨ob,1,none⟩=some v1)(hS:Sl (RB w B) w B 7 l v1)(hB:B≤w.heap.size)(hsz:l.length≤1000000000)(hlt:ob<w.heap.size):
 Calls Tryz.prog 68 #[.string nm,.pointer (some ⟨ob,0,none⟩)] w fun e w'=>e=.returned (.bool (yes (∃x,x∈l∧x.name=nm)))∧Ext w w':=by
 have o1:=hS.oneCell;obtain⟨W1,hW1,hx1,hb1⟩:=z4w w (.string nm) 9;have hV1:=hW1.symm;have hc1:W1.cell? ⟨ob,1,none⟩=some v1:=(hx1.cell hlt).trans hc;have HX:=Hd hx1;have hmf:=@hmf_ Tryz.prog;have HB:=Hd hb1;have K:=Hd (q7j 70 j2e (fun x=>x.name=nm) (.pointer (some ⟨w.heap.size,0,none⟩)) B l W1 (fun x _ w' cs hx hR hBw=>j9z B x nm ⟨w.heap.size,0,none⟩ w' cs hR ((HB.o.ext hx).cell 0) (HB.o.ext hx).lt) v1 (hS.keep (fun _ hp=>hx1.cell (by omega)) (y1j _) (fun y _=>RB.keep (fun _ hp=>hx1.cell (by omega)) (y1j _) y)) (y1k hB hx1.size) hsz);clear hW1 hx1 hb1 hc hlt hS;go_enter func68,ntmps68;go_wp2_with fail
 go_at_call 69;refine K.o.mono ?_;rintro _ w2 ⟨rfl,hx⟩;have HX2:=Hd (HX.o.trans hx);clear hx;go_wp2_with fail
 go_ret;exact⟨rfl,HX2.o⟩
theorem j9h(B:Nat)(l:List Prt)(v1:Value)(nm:ByteArray)(ob:Nat)(w:World)(hc:w.cell? ⟨ob,2,none⟩=some v1)(hS:Sl (RP w B) w B 8 l v1)(hB:B≤w.heap.size)(hsz:l.length≤1000000000)(hlt:ob<w.heap.size):
 Calls Tryz.prog 153 #[.string nm,.pointer (some ⟨ob,0,none⟩)] w fun e w'=>e=.returned (.bool (yes (∃x,x∈l∧x.name=nm)))∧Ext w w':=by
 have o1:=hS.oneCell;obtain⟨W1,hW1,hx1,hb1⟩:=z4w w (.string nm) 9;have hV1:=hW1.symm;have hc1:W1.cell? ⟨ob,2,none⟩=some v1:=(hx1.cell hlt).trans hc;have HX:=Hd hx1;have hmf:=@hmf_ Tryz.prog;have HB:=Hd hb1;have K:=Hd (q7i 155 j2d (fun x=>x.name=nm) (.pointer (some ⟨w.heap.size,0,none⟩)) B l W1 (fun x _ w' cs hx hR hBw=>j8l B x nm ⟨w.heap.size,0,none⟩ w' cs hR ((HB.o.ext hx).cell 0) (HB.o.ext hx).lt) v1 (hS.keep (fun _ hp=>hx1.cell (by omega)) (y1j _) (fun y _=>RP.keep (fun _ hp=>hx1.cell (by omega)) (y1j _) y)) (y1k hB hx1.size) hsz);clear hW1 hx1 hb1 hc hlt hS;go_enter func153,ntmps153;go_wp2_with fail
 go_at_call 154;refine K.o.mono ?_;rintro _ w2 ⟨rfl,hx⟩;have HX2:=Hd (HX.o.trans hx);clear hx;go_wp2_with fail
 go_ret;exact⟨rfl,HX2.o⟩
end Go.Proofs.YtlfmlodanoolhaaGreatDoor

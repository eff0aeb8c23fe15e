/-
  Parts of the proof: Msort2 Msort3 Mmany. By an AI agent.
-/
import Derived.Test.YtmmjgmcfdnkomaaGreatDoorL08
import Derived.Test.YtmmjgmcfdnkomaaGreatDoorL11
import Derived.Test.YtmmjgmcfdnkomaaGreatDoorL00
import Derived.Deep.DeepCutAuto
set_option maxRecDepth 100000
set_option maxHeartbeats 8000000
namespace Go.Proofs.YtmmjgmcfdnkomaaGreatDoor
section
open Go.RowKit Go.Sort Go.Lib Go.Proofs
attribute [local go_sem ↓] Go.wp_at_zero Go.wp_at_succ
def iB (l:List dr):Prop:=∀ (i j:Nat) (hi:i<l.length) (hj:j<l.length),i<j→0<co l[j].1 l[i].1∧co l[i].1 l[j].1<0
structure t7 (W:World) (bk off i k:Nat) (x y:dr):Prop where
 a0:W.cell? ⟨bk,off+i * 2,none⟩=some (.string x.1)
 a1:W.cell? ⟨bk,off+i * 2+1,none⟩=some x.2
 b0:W.cell? ⟨bk,off+k * 2,none⟩=some (.string y.1)
 b1:W.cell? ⟨bk,off+k * 2+1,none⟩=some y.2
theorem ms {A:Option Addr} {l:List dr} {w:World} {B:Nat} (S:ae w B 2 A l.length (cB l)) (i k:Nat) (I:i<l.length) (K:k<l.length):∃ bk off,A=some ⟨bk,off,none⟩∧bk<B∧t7 w bk off i k l[i] l[k]:=by obtain ⟨bk,off,U,J,D⟩:=S.el fQ (by omega) rfl I;have Q:=D i I 0 _ rfl;have O:=D i I 1 _ rfl;have N:=D k K 0 _ rfl;have M:=D k K 1 _ rfl;exact ⟨bk,off,U,J,Q,O,N,M⟩
theorem t7.below {W W':World} {bk off i k:Nat} {x y:dr} (h:t7 W bk off i k x y) (hb:bk<W.heap.size) (D:Below W.heap.size W W'):t7 W' bk off i k x y:=
 ⟨(D.cell (p:=⟨bk,off+i * 2,none⟩) hb).trans h.a0,(D.cell (p:=⟨bk,off+i * 2+1,none⟩) hb).trans h.a1,(D.cell (p:=⟨bk,off+k * 2,none⟩) hb).trans h.b0,(D.cell (p:=⟨bk,off+k * 2+1,none⟩) hb).trans h.b1⟩
theorem uL (A:Option Addr) (cap:Nat) (l:List dr) (a b:Nat) (gi:a≤b) (gh:b≤l.length) (w:World) (hr:ae w w.heap.size 2 A l.length (cB l)) (hl:l.length≤1000) (ord:∀ j (h:j+1<l.length),0≤co l[j+1].1 l[j].1) :
  Calls Tryz.prog 72 #[.slice A l.length cap,.int .i64 (a:Int),.int .i64 (b:Int),.func (.func 25) #[] #[]] w fun e w'=>e=.returned (.tuple #[])∧Below w.heap.size w w':=by
 have he:=ct;have HR:=hid hr;have HO:=hid ord;clear hr ord;(go_enter Tryz.func72,Tryz.ntmps72);(go_wp2_with fail);go_loopg [8] b (fun g u8 wr=>∃ i:Nat,a+1≤i∧b+1-i≤g+1∧i≤b+1∧u8=.int .i64 (i:Int)∧Below w.heap.size w wr)
 case atStart=>exact ⟨a+1,Nat.le_refl _,by omega,by omega,by go_num,Below.refl _ _⟩
 case round=>
  obtain ⟨i,gg,hg,ge,rfl,M⟩:=hrel;by_cases gd:i<b
  ·(have J:i<l.length:=by omega);(have N:(i:Int)<(b:Int):=by omega);obtain ⟨k,K⟩:∃ k,i=k+1:=⟨i-1,by omega⟩;(have gb:(i:Int)<(l.length:Int):=by omega);(have ga:(k:Int)<(l.length:Int):=by omega);(have h0:(a:Int)<(i:Int):=by omega);(have h1:(0:Int)≤(i:Int):=by omega);(have h2:(0:Int)≤(k:Int):=by omega);(have q1:IntKind.i64.wrap ((i:Int)-1)=(k:Int):=by rw [show (i:Int)-1=(k:Int) by omega];exact IntWalk.i64_in _ (by omega));obtain ⟨bk,off,rfl,r,O⟩:=(HR.out.below M).el fQ (by omega) rfl J;have q:=O i J 0 _ rfl;have k1:=O i J 1 _ rfl;have o:=O k (by omega) 0 _ rfl;have m1:=O k (by omega) 1 _ rfl;simp only [Nat.add_zero] at q o;have Q:=hid (fun W=>cr l[i] l[k] W);have HP:=hid (show 0≤co l[i].1 l[k].1 by have h:=HO.out k (by omega);simp only [←K] at h;exact h);unfold eQ at Q;generalize l[i]=x at *;generalize l[k]=y at *;obtain ⟨U,x2⟩:=x;obtain ⟨S,z⟩:=y;simp only at q k1 o m1 Q HP;have gj:=hid K;clear O K;(go_wp2_with fail);refine wp_loop_rounds 1 ?_;rw [rounds_succ];(go_wp2_with fail);(have g3:decide (co U S<0)=false:=by have:=HP.out;rw [decide_eq_false_iff_not];omega);have g0:decide ((a:Int)<(i:Int))=true:=decide_eq_true h0;have g1:decide (a<i)=true:=decide_eq_true (by omega);(have g2:a<i:=by omega);have D:bk<wr.heap.size:=Nat.lt_of_lt_of_le r M.size;have KS:∀ W,Below wr.heap.size wr W→W.cell? ⟨bk,off+i * 2,none⟩=some (.string U)∧W.cell? ⟨bk,off+i * 2+1,none⟩=some x2∧W.cell? ⟨bk,off+k * 2,none⟩=some (.string S)∧W.cell? ⟨bk,off+k * 2+1,none⟩=some z:=
    fun W h=>⟨(h.cell (p:=⟨bk,off+i * 2,none⟩) D).trans q,(h.cell (p:=⟨bk,off+i * 2+1,none⟩) D).trans k1,(h.cell (p:=⟨bk,off+k * 2,none⟩) D).trans o,(h.cell (p:=⟨bk,off+k * 2+1,none⟩) D).trans m1⟩
   go_region_held3 (fun w'=>w'.cell? ⟨bk,off+i * 2,none⟩=some (.string U)∧w'.cell? ⟨bk,off+i * 2+1,none⟩=some x2∧w'.cell? ⟨bk,off+k * 2,none⟩=some (.string S)∧w'.cell? ⟨bk,off+k * 2+1,none⟩=some z)
    (first | exact KS _ (ah (Below.refl _ _) I) | exact KS _ (ah (Below.refl _ _).drew I) | exact KS _ (ah (ab (Below.refl _ _) _) I) | exact KS _ (Below.refl _ _) | exact KS _ (Below.refl _ _).drew | exact KS _ (ab (Below.refl _ _) _) | exact KS _ bel)
    ((go_at_call 25;refine (Q.out _).mono ?_;rintro e w' ⟨rfl,I⟩))
   have u:Below w.heap.size w w':=M.trans ((ah (Below.refl wr.heap.size wr).drew I).mono M.size);clear KS Q I M;(go_wp2_with fail);go_roundg (b-(i+1))
   case measure=>omega
   case rel=>exact ⟨i+1,by omega,by omega,by omega,by go_num,u⟩
  ·(have N:¬ (i:Int)<(b:Int):=by omega);(go_wp2_with fail);go_end0;exact ⟨rfl,M⟩
theorem iB.adj {l:List dr} (h:iB l):∀ j (D:j+1<l.length),0≤co l[j+1].1 l[j].1:=fun j D=>Int.le_of_lt (h j (j+1) (by omega) D (by omega)).1
theorem oP (A:Option Addr) (cap:Nat) (l:List dr) (hl:l.length≤64) (ord:iB l) (a m b:Nat) (Q:m=a+1) (gh:m<b) (hb:b≤l.length) (w:World) (hr:ae w w.heap.size 2 A l.length (cB l)) :
  Calls Tryz.prog 73 #[.slice A l.length cap,.int .i64 (a:Int),.int .i64 (m:Int),.int .i64 (b:Int),.func (.func 25) #[] #[]] w fun e w'=>e=.returned (.tuple #[])∧Below w.heap.size w w':=by
 have he:=ct;have HR:=hid hr;have HO:=hid ord;(have q1:IntKind.i64.wrap ((m:Int)-(a:Int))=1:=by rw [show (m:Int)-(a:Int)=1 by omega];rfl);(have q2:IntKind.i64.wrap ((m:Int)-1)=(a:Int):=by rw [show (m:Int)-1=(a:Int) by omega];exact IntWalk.i64_in _ (by omega));have S:=hid Q;clear hr ord Q;(go_enter Tryz.func73,Tryz.ntmps73);(go_wp2_with fail);go_loopg [10,11,12] l.length (fun g u10 u11 _ wr=>∃ j:Nat,m≤j∧j-m≤g∧j≤b∧u10=.int .i64 (m:Int)∧u11=.int .i64 (j:Int)∧Below w.heap.size w wr)
 case atStart=>exact ⟨b,by omega,by omega,by omega,rfl,rfl,Below.refl _ _⟩
 case round=>
  obtain ⟨j,yk,hg,gj,rfl,rfl,K⟩:=hrel;by_cases gi:m<j
  ·(have M:(m:Int)<(j:Int):=by omega);obtain ⟨h,hh⟩:∃ h,h=(m+j) / 2:=⟨_,rfl⟩;(have ga:m≤h:=by omega);(have gl:h<j:=by omega);(have hq:((m:Int)+(j:Int)) / 2=(h:Int):=by omega);(have O:a<l.length:=by have:=S.out;omega);(have N:h<l.length:=by omega);(have gd:a<h:=by have:=S.out;omega);obtain ⟨bk,off,rfl,gb,ht⟩:=ms (HR.out.below K) h a N O;have HP:=hid (Int.le_of_lt (HO.out a h O N gd).1);(have z1:(h:Int)<(l.length:Int):=by omega);(have z2:(a:Int)<(l.length:Int):=by omega);(have z3:(0:Int)≤(h:Int):=by omega);(have z4:(0:Int)≤(a:Int):=by omega);clear hh;have D:bk<wr.heap.size:=Nat.lt_of_lt_of_le gb K.size;have U:=hid (fun W=>cr l[h] l[a] W);unfold eQ at U;obtain ⟨z,u,r,q⟩:=ht;generalize l[h]=x at *;generalize l[a]=y at *;obtain ⟨o,x2⟩:=x;obtain ⟨k,y2⟩:=y;simp only at z u r q U HP;(have g3:decide (co o k<0)=false:=by have:=HP.out;rw [decide_eq_false_iff_not];omega);have KS:∀ W,Below wr.heap.size wr W→W.cell? ⟨bk,off+h * 2,none⟩=some (.string o)∧W.cell? ⟨bk,off+h * 2+1,none⟩=some x2∧W.cell? ⟨bk,off+a * 2,none⟩=some (.string k)∧W.cell? ⟨bk,off+a * 2+1,none⟩=some y2:=
    fun W J=>⟨(J.cell (p:=⟨bk,off+h * 2,none⟩) D).trans z,(J.cell (p:=⟨bk,off+h * 2+1,none⟩) D).trans u,(J.cell (p:=⟨bk,off+a * 2,none⟩) D).trans r,(J.cell (p:=⟨bk,off+a * 2+1,none⟩) D).trans q⟩
   (go_wp2_with fail);go_region_held3 (fun w'=>w'.cell? ⟨bk,off+h * 2,none⟩=some (.string o)∧w'.cell? ⟨bk,off+h * 2+1,none⟩=some x2∧w'.cell? ⟨bk,off+a * 2,none⟩=some (.string k)∧w'.cell? ⟨bk,off+a * 2+1,none⟩=some y2)
    (first | exact KS _ (ah (Below.refl _ _) I) | exact KS _ (ah (Below.refl _ _).drew I) | exact KS _ (ah (ab (Below.refl _ _) _) I) | exact KS _ (Below.refl _ _) | exact KS _ (Below.refl _ _).drew | exact KS _ (ab (Below.refl _ _) _) | exact KS _ bel)
    ((go_at_call 25;refine (U.out _).mono ?_;rintro e w' ⟨rfl,I⟩))
   have ge:Below w.heap.size w w':=K.trans ((ah (Below.refl wr.heap.size wr).drew I).mono K.size);clear KS U I K z u r q g3;(go_wp2_with fail);go_roundg (h-m)
   case measure=>omega
   case rel=>exact ⟨h,ga,Nat.le_refl _,by omega,rfl,rfl,ge⟩
  ·(have M:¬ (m:Int)<(j:Int):=by omega);(have gg:¬ (a:Int)<(a:Int):=by omega);(go_wp2_with fail);refine wp_loop_rounds 1 ?_;rw [rounds_succ];(go_wp2_with fail);exact bodyPost_ret (results_none rfl _ _ _) rfl ⟨rfl,K⟩
theorem nz (A:Option Addr) (cap:Nat) (l:List dr) (hl:l.length≤64) (ord:iB l) (a m b:Nat) (gi:a+1<m) (r:b=m+1) (hb:b≤l.length) (w:World) (hr:ae w w.heap.size 2 A l.length (cB l)) :
  Calls Tryz.prog 73 #[.slice A l.length cap,.int .i64 (a:Int),.int .i64 (m:Int),.int .i64 (b:Int),.func (.func 25) #[] #[]] w fun e w'=>e=.returned (.tuple #[])∧Below w.heap.size w w':=by
 have he:=ct;have HR:=hid hr;have HO:=hid ord;(have q0:((m:Int)-(a:Int)==1)=false:=by rw [beq_eq_false_iff_ne];omega);(have q1:IntKind.i64.wrap ((b:Int)-(m:Int))=1:=by rw [show (b:Int)-(m:Int)=1 by omega];rfl);(have K:m<l.length:=by omega);clear hr ord r;(go_enter Tryz.func73,Tryz.ntmps73);(go_wp2_with fail);go_loopg [14,15,16] l.length (fun g u14 u15 _ wr=>∃ i:Nat,a≤i∧m-i≤g∧i≤m∧u14=.int .i64 (i:Int)∧u15=.int .i64 (m:Int)∧Below w.heap.size w wr)
 case atStart=>exact ⟨a,by omega,by omega,by omega,rfl,rfl,Below.refl _ _⟩
 case round=>
  obtain ⟨i,gg,hg,ge,rfl,rfl,M⟩:=hrel;by_cases gd:i<m
  ·(have N:(i:Int)<(m:Int):=by omega);obtain ⟨h,hh⟩:∃ h,h=(i+m) / 2:=⟨_,rfl⟩;(have gh:i≤h:=by omega);(have u:h<m:=by omega);(have hq:((i:Int)+(m:Int)) / 2=(h:Int):=by omega);(have O:h<l.length:=by omega);obtain ⟨bk,off,rfl,z,ht⟩:=ms (HR.out.below M) m h K O;have HP:=hid (Int.le_of_lt (HO.out h m O K u).1);(have z1:(h:Int)<(l.length:Int):=by omega);(have z2:(m:Int)<(l.length:Int):=by omega);(have z3:(0:Int)≤(h:Int):=by omega);(have z4:(0:Int)≤(m:Int):=by omega);clear hh;have D:bk<wr.heap.size:=Nat.lt_of_lt_of_le z M.size;have Q:=hid (fun W=>cr l[m] l[h] W);unfold eQ at Q;obtain ⟨q,o,k,j⟩:=ht;generalize l[m]=x at *;generalize l[h]=y at *;obtain ⟨U,x2⟩:=x;obtain ⟨S,y2⟩:=y;simp only at q o k j Q HP;(have g3:decide (co U S<0)=false:=by have:=HP.out;rw [decide_eq_false_iff_not];omega);have KS:∀ W,Below wr.heap.size wr W→W.cell? ⟨bk,off+m * 2,none⟩=some (.string U)∧W.cell? ⟨bk,off+m * 2+1,none⟩=some x2∧W.cell? ⟨bk,off+h * 2,none⟩=some (.string S)∧W.cell? ⟨bk,off+h * 2+1,none⟩=some y2:=
    fun W J=>⟨(J.cell (p:=⟨bk,off+m * 2,none⟩) D).trans q,(J.cell (p:=⟨bk,off+m * 2+1,none⟩) D).trans o,(J.cell (p:=⟨bk,off+h * 2,none⟩) D).trans k,(J.cell (p:=⟨bk,off+h * 2+1,none⟩) D).trans j⟩
   (go_wp2_with fail);go_region_held3 (fun w'=>w'.cell? ⟨bk,off+m * 2,none⟩=some (.string U)∧w'.cell? ⟨bk,off+m * 2+1,none⟩=some x2∧w'.cell? ⟨bk,off+h * 2,none⟩=some (.string S)∧w'.cell? ⟨bk,off+h * 2+1,none⟩=some y2)
    (first | exact KS _ (ah (Below.refl _ _) I) | exact KS _ (ah (Below.refl _ _).drew I) | exact KS _ (ah (ab (Below.refl _ _) _) I) | exact KS _ (Below.refl _ _) | exact KS _ (Below.refl _ _).drew | exact KS _ (ab (Below.refl _ _) _) | exact KS _ bel)
    ((go_at_call 25;refine (Q.out _).mono ?_;rintro e w' ⟨rfl,I⟩))
   have ga:Below w.heap.size w w':=M.trans ((ah (Below.refl wr.heap.size wr).drew I).mono M.size);clear KS Q I M q o k j g3;(go_wp2_with fail);go_roundg (m-(h+1))
   case measure=>omega
   case rel=>exact ⟨h+1,by omega,Nat.le_refl _,by omega,by go_num,rfl,ga⟩
  ·(have N:¬ (i:Int)<(m:Int):=by omega);(obtain rfl:i=m:=by omega);(have gb:¬ (i:Int)>(i:Int):=by omega);(go_wp2_with fail);refine wp_loop_rounds 1 ?_;rw [rounds_succ];(go_wp2_with fail);exact bodyPost_ret (results_none rfl _ _ _) rfl ⟨rfl,M⟩
theorem lx (A:Option Addr) (cap:Nat) (l:List dr) (hl:l.length≤64) (ord:iB l) (a m b mid:Nat) (O:mid=(a+b) / 2) (gu:a+1<m) (gl:m+1<b) (hc:mid<m) (hb:b≤l.length) (w:World) (hr:ae w w.heap.size 2 A l.length (cB l))
  (K:∀ w2,ae w2 w2.heap.size 2 A l.length (cB l)→Calls Tryz.prog 73 #[.slice A l.length cap,.int .i64 (mid:Int),.int .i64 (m:Int),.int .i64 (b:Int),.func (.func 25) #[] #[]] w2 fun e w'=>e=.returned (.tuple #[])∧Below w2.heap.size w2 w') :
  Calls Tryz.prog 73 #[.slice A l.length cap,.int .i64 (a:Int),.int .i64 (m:Int),.int .i64 (b:Int),.func (.func 25) #[] #[]] w fun e w'=>e=.returned (.tuple #[])∧Below w.heap.size w w':=by
 have he:=ct;have HR:=hid hr;have HO:=hid ord;have j:=hid K;(have q0:((m:Int)-(a:Int)==1)=false:=by rw [beq_eq_false_iff_ne];omega);(have q1:((b:Int)-(m:Int)==1)=false:=by rw [beq_eq_false_iff_ne];omega);(have q2:((a:Int)+(b:Int)) / 2=(mid:Int):=by omega);obtain ⟨p,hp⟩:∃ p,p=mid+m-1:=⟨_,rfl⟩;(have yk:(mid:Int)+(m:Int)-1=(p:Int):=by omega);have gh:=hid hp;(have gn:a<mid:=by omega);(have gm:mid<b:=by omega);obtain ⟨st,ga⟩:∃ st,st=mid+m-b:=⟨_,rfl⟩;(have q3:(mid:Int)+(m:Int)-(b:Int)=(st:Int):=by omega);(have q4:(m:Int)>(mid:Int):=by omega);(have q5:(mid:Int)+(m:Int)-(mid:Int)=(m:Int):=by omega);(have gj:st≤mid:=by omega);(have gi:mid+m≤b+st:=by omega);clear hr ord K ga O hp;(go_enter Tryz.func73,Tryz.ntmps73);(go_wp2_with fail);go_loopg [20,21,23] l.length (fun g u20 u21 _ wr=>∃ s:Nat,st≤s∧mid-s≤g∧s≤mid∧u20=.int .i64 (s:Int)∧u21=.int .i64 (mid:Int)∧Below w.heap.size w wr)
 case atStart=>exact ⟨st,Nat.le_refl _,by omega,by omega,rfl,rfl,Below.refl _ _⟩
 case round=>
  obtain ⟨s,gr,hg,gq,rfl,rfl,N⟩:=hrel;by_cases gp:s<mid
  ·(have Q:(s:Int)<(mid:Int):=by omega);obtain ⟨c,ge⟩:∃ c,c=(s+mid) / 2:=⟨_,rfl⟩;obtain ⟨d,gb⟩:∃ d,d=mid+m-1-c:=⟨_,rfl⟩;(have gt:s≤c:=by omega);(have gs:c<mid:=by omega);(have gd:c<d:=by omega);(have S:d<l.length:=by omega);(have U:c<l.length:=by omega);(have q6:((s:Int)+(mid:Int)) / 2=(c:Int):=by omega);(have q8:IntKind.i64.wrap ((p:Int)-(c:Int))=(d:Int):=by rw [show (p:Int)-(c:Int)=(d:Int) by have:=gh.out;omega];exact IntWalk.i64_in _ (by omega));obtain ⟨bk,off,rfl,gg,ht⟩:=ms (HR.out.below N) d c S U;have HP:=hid (Int.le_of_lt (HO.out c d U S gd).1);(have z1:(d:Int)<(l.length:Int):=by omega);(have z2:(c:Int)<(l.length:Int):=by omega);(have z3:(0:Int)≤(d:Int):=by omega);(have z4:(0:Int)≤(c:Int):=by omega);clear ge gb;have D:bk<wr.heap.size:=Nat.lt_of_lt_of_le gg N.size;have k:=hid (fun W=>cr l[d] l[c] W);unfold eQ at k;obtain ⟨k0,z,u,r⟩:=ht;generalize l[d]=x at *;generalize l[c]=y at *;obtain ⟨q,x2⟩:=x;obtain ⟨o,y2⟩:=y;simp only at k0 z u r k HP;(have g3:decide (co q o<0)=false:=by have:=HP.out;rw [decide_eq_false_iff_not];omega);have KS:∀ W,Below wr.heap.size wr W→W.cell? ⟨bk,off+d * 2,none⟩=some (.string q)∧W.cell? ⟨bk,off+d * 2+1,none⟩=some x2∧W.cell? ⟨bk,off+c * 2,none⟩=some (.string o)∧W.cell? ⟨bk,off+c * 2+1,none⟩=some y2:=
    fun W J=>⟨(J.cell (p:=⟨bk,off+d * 2,none⟩) D).trans k0,(J.cell (p:=⟨bk,off+d * 2+1,none⟩) D).trans z,(J.cell (p:=⟨bk,off+c * 2,none⟩) D).trans u,(J.cell (p:=⟨bk,off+c * 2+1,none⟩) D).trans r⟩
   (go_wp2_with fail);go_region_held3 (fun w'=>w'.cell? ⟨bk,off+d * 2,none⟩=some (.string q)∧w'.cell? ⟨bk,off+d * 2+1,none⟩=some x2∧w'.cell? ⟨bk,off+c * 2,none⟩=some (.string o)∧w'.cell? ⟨bk,off+c * 2+1,none⟩=some y2)
    (first | exact KS _ (ah (Below.refl _ _) I) | exact KS _ (ah (Below.refl _ _).drew I) | exact KS _ (ah (ab (Below.refl _ _) _) I) | exact KS _ (Below.refl _ _) | exact KS _ (Below.refl _ _).drew | exact KS _ (ab (Below.refl _ _) _) | exact KS _ bel)
    ((go_at_call 25;refine (k.out _).mono ?_;rintro e w' ⟨rfl,I⟩))
   have M:Below w.heap.size w w':=N.trans ((ah (Below.refl wr.heap.size wr).drew I).mono N.size);clear KS k I N k0 z u r g3;(go_wp2_with fail);go_roundg (mid-(c+1))
   case measure=>omega
   case rel=>exact ⟨c+1,by omega,Nat.le_refl _,by omega,by go_num,rfl,M⟩
  ·(have Q:¬ (s:Int)<(mid:Int):=by omega);(obtain rfl:s=mid:=by omega);have HB:=hid N;have b1:decide ((s:Int)<(m:Int))=true:=decide_eq_true (by omega);have b2:decide ((a:Int)<(s:Int))=true:=decide_eq_true (by omega);have b3:decide ((m:Int)<(b:Int))=true:=decide_eq_true (by omega);have b4:decide (s<m)=true:=decide_eq_true (by omega);have b5:decide (a<s)=true:=decide_eq_true (by omega);have b6:decide (m<b)=true:=decide_eq_true (by omega);clear N;(go_wp2_with fail);refine (j.out _ ((HR.out.below HB.out).more HB.out.size)).mono ?_;rintro e w2 ⟨rfl,h⟩;have M:=ah HB.out h;clear h;(go_wp2_with fail);go_end0;exact ⟨rfl,M⟩
theorem ly (A:Option Addr) (cap:Nat) (l:List dr) (hl:l.length≤64) (ord:iB l) (a m b mid:Nat) (Q:mid=(a+b) / 2) (gs:a+1<m) (gj:m+1<b) (hc:m≤mid) (hb:b≤l.length) (w:World) (hr:ae w w.heap.size 2 A l.length (cB l))
  (K:m<mid→∀ w2,ae w2 w2.heap.size 2 A l.length (cB l)→Calls Tryz.prog 73 #[.slice A l.length cap,.int .i64 (a:Int),.int .i64 (m:Int),.int .i64 (mid:Int),.func (.func 25) #[] #[]] w2 fun e w'=>e=.returned (.tuple #[])∧Below w2.heap.size w2 w') :
  Calls Tryz.prog 73 #[.slice A l.length cap,.int .i64 (a:Int),.int .i64 (m:Int),.int .i64 (b:Int),.func (.func 25) #[] #[]] w fun e w'=>e=.returned (.tuple #[])∧Below w.heap.size w w':=by
 have he:=ct;have HR:=hid hr;have HO:=hid ord;have k:=hid K;(have q0:((m:Int)-(a:Int)==1)=false:=by rw [beq_eq_false_iff_ne];omega);(have q1:((b:Int)-(m:Int)==1)=false:=by rw [beq_eq_false_iff_ne];omega);(have q2:((a:Int)+(b:Int)) / 2=(mid:Int):=by omega);obtain ⟨p,hp⟩:∃ p,p=mid+m-1:=⟨_,rfl⟩;(have gi:(mid:Int)+(m:Int)-1=(p:Int):=by omega);have gh:=hid hp;(have gl:a<mid:=by omega);(have yk:mid<b:=by omega);(have q4:¬ (m:Int)>(mid:Int):=by omega);(have q5:(mid:Int)+(m:Int)-(m:Int)=(mid:Int):=by omega);clear hr ord K Q hp;(go_enter Tryz.func73,Tryz.ntmps73);(go_wp2_with fail);go_loopg [20,21,23] l.length (fun g u20 u21 _ wr=>∃ s:Nat,a≤s∧m-s≤g∧s≤m∧u20=.int .i64 (s:Int)∧u21=.int .i64 (m:Int)∧Below w.heap.size w wr)
 case atStart=>exact ⟨a,Nat.le_refl _,by omega,by omega,rfl,rfl,Below.refl _ _⟩
 case round=>
  obtain ⟨s,gp,hg,gn,rfl,rfl,O⟩:=hrel;by_cases gm:s<m
  ·(have S:(s:Int)<(m:Int):=by omega);obtain ⟨c,gd⟩:∃ c,c=(s+m) / 2:=⟨_,rfl⟩;obtain ⟨d,ga⟩:∃ d,d=mid+m-1-c:=⟨_,rfl⟩;(have gr:s≤c:=by omega);(have gq:c<m:=by omega);(have gb:c<d:=by omega);(have U:d<l.length:=by omega);(have h:c<l.length:=by omega);(have q6:((s:Int)+(m:Int)) / 2=(c:Int):=by omega);(have q8:IntKind.i64.wrap ((p:Int)-(c:Int))=(d:Int):=by rw [show (p:Int)-(c:Int)=(d:Int) by have:=gh.out;omega];exact IntWalk.i64_in _ (by omega));obtain ⟨bk,off,rfl,ge,ht⟩:=ms (HR.out.below O) d c U h;have HP:=hid (Int.le_of_lt (HO.out c d h U gb).1);(have z1:(d:Int)<(l.length:Int):=by omega);(have z2:(c:Int)<(l.length:Int):=by omega);(have z3:(0:Int)≤(d:Int):=by omega);(have z4:(0:Int)≤(c:Int):=by omega);clear gd ga;have D:bk<wr.heap.size:=Nat.lt_of_lt_of_le ge O.size;have o:=hid (fun W=>cr l[d] l[c] W);unfold eQ at o;obtain ⟨k0,k1,m0,z⟩:=ht;generalize l[d]=x at *;generalize l[c]=y at *;obtain ⟨u,x2⟩:=x;obtain ⟨r,y2⟩:=y;simp only at k0 k1 m0 z o HP;(have g3:decide (co u r<0)=false:=by have:=HP.out;rw [decide_eq_false_iff_not];omega);have KS:∀ W,Below wr.heap.size wr W→W.cell? ⟨bk,off+d * 2,none⟩=some (.string u)∧W.cell? ⟨bk,off+d * 2+1,none⟩=some x2∧W.cell? ⟨bk,off+c * 2,none⟩=some (.string r)∧W.cell? ⟨bk,off+c * 2+1,none⟩=some y2:=
    fun W J=>⟨(J.cell (p:=⟨bk,off+d * 2,none⟩) D).trans k0,(J.cell (p:=⟨bk,off+d * 2+1,none⟩) D).trans k1,(J.cell (p:=⟨bk,off+c * 2,none⟩) D).trans m0,(J.cell (p:=⟨bk,off+c * 2+1,none⟩) D).trans z⟩
   (go_wp2_with fail);go_region_held3 (fun w'=>w'.cell? ⟨bk,off+d * 2,none⟩=some (.string u)∧w'.cell? ⟨bk,off+d * 2+1,none⟩=some x2∧w'.cell? ⟨bk,off+c * 2,none⟩=some (.string r)∧w'.cell? ⟨bk,off+c * 2+1,none⟩=some y2)
    (first | exact KS _ (ah (Below.refl _ _) I) | exact KS _ (ah (Below.refl _ _).drew I) | exact KS _ (ah (ab (Below.refl _ _) _) I) | exact KS _ (Below.refl _ _) | exact KS _ (Below.refl _ _).drew | exact KS _ (ab (Below.refl _ _) _) | exact KS _ bel)
    ((go_at_call 25;refine (o.out _).mono ?_;rintro e w' ⟨rfl,I⟩))
   have N:Below w.heap.size w w':=O.trans ((ah (Below.refl wr.heap.size wr).drew I).mono O.size);clear KS o I O k0 k1 m0 z g3;(go_wp2_with fail);go_roundg (m-(c+1))
   case measure=>omega
   case rel=>exact ⟨c+1,by omega,Nat.le_refl _,by omega,by go_num,rfl,N⟩
  ·(have S:¬ (s:Int)<(m:Int):=by omega);(obtain rfl:s=m:=by omega);have q:=hid O;have b2:decide ((a:Int)<(s:Int))=true:=decide_eq_true (by omega);have b5:decide (a<s)=true:=decide_eq_true (by omega);clear O;by_cases M:s<mid
   ·have b3:decide ((s:Int)<(mid:Int))=true:=decide_eq_true (by omega);have b6:decide (s<mid)=true:=decide_eq_true M;have gg:=hid (k.out M);(go_wp2_with fail);refine (gg.out _ ((HR.out.below q.out).more q.out.size)).mono ?_;rintro e w2 ⟨rfl,j⟩;have N:=ah q.out j;clear j;(go_wp2_with fail);go_end0;exact ⟨rfl,N⟩
   ·have b3:decide ((s:Int)<(mid:Int))=false:=decide_eq_false (by omega);have b6:decide (s<mid)=false:=decide_eq_false M;(go_wp2_with fail);go_end0;exact ⟨rfl,q.out⟩
theorem il (A:Option Addr) (cap:Nat) (l:List dr) (D:l.length≤64) (ord:iB l):∀ (f a m b:Nat),b-a≤f→a<m→m<b→b≤l.length→∀ w,ae w w.heap.size 2 A l.length (cB l) →
  Calls Tryz.prog 73 #[.slice A l.length cap,.int .i64 (a:Int),.int .i64 (m:Int),.int .i64 (b:Int),.func (.func 25) #[] #[]] w fun e w'=>e=.returned (.tuple #[])∧Below w.heap.size w w'
 | 0,a,m,b,N,Q,M,_,_,_=>absurd N (by omega)
 | f+1,a,m,b,N,Q,M,hb,w,I=>by
  by_cases S:m=a+1
  ·exact oP A cap l D ord a m b S M hb w I
  by_cases K:b=m+1
  ·exact nz A cap l D ord a m b (by omega) K hb w I
  by_cases O:(a+b) / 2<m
  ·exact lx A cap l D ord a m b _ rfl (by omega) (by omega) O hb w I fun J hr2=>il A cap l D ord f _ m b (by omega) O M hb J hr2
  ·exact ly A cap l D ord a m b _ rfl (by omega) (by omega) (by omega) hb w I fun h J hr2=>il A cap l D ord f a m _ (by omega) Q h (by omega) J hr2
theorem nA (A:Option Addr) (cap:Nat) (l:List dr) (hl:l.length≤64) (ord:iB l) (w:World) (hr:ae w w.heap.size 2 A l.length (cB l)) :
  Calls Tryz.prog 47 #[.slice A l.length cap,.int .i64 l.length,.func (.func 25) #[] #[]] w fun e w'=>e=.returned (.tuple #[])∧Below w.heap.size w w':=by
 obtain ⟨n,hn⟩:∃ n,n=l.length:=⟨_,rfl⟩;have HI:=hid (fun (a b:Nat) (ge:a≤b) (hb:b≤n) W (N:Below w.heap.size w W)=>uL A cap l a b ge (by omega) W ((hr.below N).more N.size) (by omega) ord.adj);have HM:=hid (fun (a m b:Nat) (h1:a<m) (h2:m<b) (hb:b≤n) W (N:Below w.heap.size w W)=>il A cap l hl ord (b-a) a m b (Nat.le_refl _) h1 h2 (by omega) W ((hr.below N).more N.size));rw [←hn] at HI HM ⊢;(have gg:n≤64:=by omega);unfold iB at ord;clear hr ord hl hn;(go_enter Tryz.func47,Tryz.ntmps47);(go_wp2_with fail);go_loopg [7,8] n (fun g u7 u8 wr=>∃ x:Nat,x≤n∧n-x≤g∧u7=.int .i64 (x:Int)∧u8=.int .i64 ((x+20:Nat):Int)∧Below w.heap.size w wr)
 case atStart=>exact ⟨0,Nat.zero_le _,by omega,rfl,rfl,Below.refl _ _⟩
 case round=>
  obtain ⟨x,hx,hg,rfl,rfl,N⟩:=hrel;have HB:=hid N;clear N;by_cases O:x+20≤n
  ·(have M:((x+20:Nat):Int)≤(n:Int):=by omega);generalize j:x+20=y at *;have HY:=hid j;clear j;(go_wp2_with fail);refine (HI.out x y (by have:=HY.out;omega) O wr HB.out).mono ?_;rintro e w2 ⟨rfl,I⟩;have K:=ah HB.out I;clear I;(go_wp2_with fail);go_roundg (n-y)
   case measure=>have:=HY.out;omega
   case rel=>exact ⟨y,O,Nat.le_refl _,rfl,by go_num,K⟩
  ·(have M:¬ ((x+20:Nat):Int)≤(n:Int):=by omega);generalize x+20=y at *;(go_wp2_with fail);refine (HI.out x n hx (Nat.le_refl _) wr HB.out).mono ?_;rintro e w2 ⟨rfl,I⟩;have K:=ah HB.out I;clear I HB HI O M;(go_wp2_with fail);go_loopg [6,7,8,9] 128 (fun g u6 _ _ _ wy=>∃ z:Nat,20≤z∧z≤128∧128-z≤g∧u6=.int .i64 (z:Int)∧Below w.heap.size w wy)
   case atStart=>exact ⟨20,by omega,by omega,by omega,rfl,K⟩
   case round=>
    rename World=>wy;obtain ⟨z,gj,gi,gr,rfl,u⟩:=hrel;have ga:=hid u;clear K u;by_cases gh:z<n
    ·(have S:(z:Int)<(n:Int):=by omega);obtain ⟨t,ht⟩:∃ t,t=2 * z:=⟨_,rfl⟩;(have gp:2 * (z:Int)=(t:Int):=by omega);(have gn:(z:Int) * 2=(t:Int):=by omega);(have gm:z<t:=by omega);(have k:t≤128:=by omega);have HT:=hid ht;clear ht;(go_wp2_with fail);go_loopg [7,8] n (fun g u7 u8 wv=>∃ x y:Nat,y=x+t∧x≤n∧n-x≤g∧u7=.int .i64 (x:Int)∧u8=.int .i64 (y:Int)∧Below w.heap.size w wv)
     case atStart=>exact ⟨0,t,by omega,Nat.zero_le _,by omega,rfl,rfl,ga.out⟩
     case round=>
      rename World=>wv;obtain ⟨x,y,j,hx,gs,rfl,rfl,r⟩:=hrel;have J:=hid r;obtain ⟨m,hm⟩:∃ m,m=x+z:=⟨_,rfl⟩;(have gq:(x:Int)+(z:Int)=(m:Int):=by omega);(have q:x<m:=by omega);(have gd:m<y:=by omega);(have yk:y≤x+128:=by omega);(have gl:x+1≤y:=by omega);have HY:=hid j;clear hm j r;by_cases h:y≤n
      ·(have U:(y:Int)≤(n:Int):=by omega);(go_wp2_with fail);refine (HM.out x m y q gd h wv J.out).mono ?_;rintro e w5 ⟨rfl,D⟩;have Q:=ah J.out D;clear D;(go_wp2_with fail);go_roundg (n-y)
       case measure=>omega
       case rel=>exact ⟨y,y+t,rfl,h,Nat.le_refl _,rfl,by go_num,Q⟩
      ·(have U:¬ (y:Int)≤(n:Int):=by omega);by_cases gb:m<n
       ·(have o:(m:Int)<(n:Int):=by omega);(go_wp2_with fail);refine (HM.out x m n q gb (Nat.le_refl _) wv J.out).mono ?_;rintro e w5 ⟨rfl,D⟩;have Q:=ah J.out D;clear D;(go_wp2_with fail);go_roundg (128-t)
        case measure=>omega
        case rel=>exact ⟨t,by omega,k,Nat.le_refl _,by go_num,Q⟩
       ·(have o:¬ (m:Int)<(n:Int):=by omega);(go_wp2_with fail);go_roundg (128-t)
        case measure=>omega
        case rel=>exact ⟨t,by omega,k,Nat.le_refl _,by go_num,J.out⟩
    ·(have S:¬ (z:Int)<(n:Int):=by omega);(go_wp2_with fail);go_end0;exact ⟨rfl,ga.out⟩
theorem oQ {l:List dr} (D:l.length≤64) (ord:iB l):lI l:=by intro A cap w hr;have I:=hid (nA A cap l D ord w hr);unfold iB at ord;clear hr ord;(go_enter Tryz.func24,Tryz.ntmps24);(go_wp2_with fail);refine I.out.mono ?_;rintro e w1 ⟨rfl,hb⟩;(go_wp2_with fail);go_end0;exact ⟨rfl,hb⟩
end
section
open Go.RowKit Go.Lib Go.Proofs Go.Joins
attribute [local go_sem ↓] Go.wp_at_zero Go.wp_at_succ
def eS (i:Nat):ByteArray:=⟨#[UInt8.ofNat (97+i / 26),UInt8.ofNat (97+i % 26)]⟩
def bO (i:Nat):ByteArray:=eS i++(⟨#[46,103,111]⟩:BA)
theorem im:∀ i<64,∀ j<64,i<j→0<co (bO j) (bO i)∧co (bO i) (bO j)<0:=by decide +kernel
theorem ta:∀ i<64,(fo (bO i) && !(fm (bO i)).toList.isEmpty)=true:=by decide +kernel
theorem lY (a:ByteArray):co a a=0:=by unfold co;rw [if_neg (List.lt_irrefl _),if_neg (List.lt_irrefl _)]
theorem nB {i j:Nat} (K:i<64) (J:j<64) (h:i≠j):((bO i).toList==(bO j).toList)=false:=by
 rw [beq_eq_false_iff_ne];intro e;(have M:bO i=bO j:=by have:=congrArg List.toArray e;rw [ByteArray.toList_eq,ByteArray.toList_eq] at this;cases O:bO i;cases N:bO j;rw [O,N] at this;simpa using this);rcases Nat.lt_or_ge i j with D | D
 ·have I:=(im i K j J D).1;rw [M,lY] at I;omega
 ·have I:=(im j J i K (by omega)).1;rw [M,lY] at I;omega
def fz (w:World) (fs:List an):Prop:=∀ j (h:j<fs.length),∃ b,fs[j]=⟨bO j,mu,some ⟨b,0,none⟩,12,false,(⟨#[]⟩:BA),-1,0⟩∧w.heap[b]? = some (.cells (aH mu) 5 (12,13))
theorem dG {w:World} {fs:List an} (h:fz w fs) (j:Nat) (D:j<fs.length):aU (fs.map an.fil) j=bO j:=by rw [bM _ _ (by simpa using D),List.getElem_map];obtain ⟨b,e,-⟩:=h j D;rw [e];rfl
theorem tb {w:World} {fs:List an} (h:fz w fs) (N:fs.length≤64) (j:Nat) (K:j<fs.length):bB (fs.map an.fil) j=true:=by
 have I:=dG h j K;have J:dW (fs.map an.fil) j=false:=by
  unfold dW;rw [I,Bool.or_eq_false_iff,List.length_map];constructor
  ·by_cases D:0<j
   ·rw [dG h (j-1) (by omega),nB (by omega) (by omega) (by omega),Bool.and_false]
   ·rw [decide_eq_false D,Bool.false_and]
  ·by_cases D:j+1<fs.length
   ·rw [dG h (j+1) D,nB (by omega) (by omega) (by omega),Bool.and_false]
   ·rw [decide_eq_false D,Bool.false_and]
 have M:=ta j (by omega);unfold bB;rw [I,J];simpa using M
theorem tc {w:World} {fs:List an} (h:fz w fs) (M:fs.length≤64):iB (fs.map an.fil):=by intro i j hi hj hij;(have I:i<fs.length:=by simpa using hi);(have D:j<fs.length:=by simpa using hj);have K:(fs.map an.fil)[i].1=bO i:=(bM _ i hi).symm.trans (dG h i I);have J:(fs.map an.fil)[j].1=bO j:=(bM _ j hj).symm.trans (dG h j D);rw [K,J];exact im i (by omega) j (by omega) hij
theorem nC {fs:List an} (h:∀ j,j<fs.length→bB (fs.map an.fil) j=true):∀ i,i≤fs.length→ar fs i=[]∧aE fs i=fs.take i
 | 0,_=>⟨rfl,by rw [List.take_zero];rfl⟩
 | i+1,K=>by obtain ⟨J,I⟩:=nC h i (by omega);have D:=h i (by omega);exact ⟨by rw [fq fs D,J],by rw [ew fs (by omega) D,I,List.take_succ_eq_append_getElem (by omega)]⟩
theorem fz.below {w w':World} {fs:List an} (h:fz w fs) (hb:Below w.heap.size w w'):fz w' fs:=fun j hj=>by obtain ⟨b,e,D⟩:=h j hj;exact ⟨b,e,(hb.block b (Array.getElem?_eq_some_iff.1 D).1).trans D⟩
theorem nD {w:World} {B n b:Nat} {e t:TypeId} {s:Nat} {v:Value} {xs:List Value} {cs:Array Value} {m:Nat × Nat} (K:w.ownsRow B e s v n xs) (M:w.heap[b]? = some (.cells cs t m)) (J:t≠e):some b≠v.ownBlock:=fun D=>by
 rcases K.2 with ⟨rfl,_⟩ | ⟨g,cap,cur,rfl,_,I,_⟩
 ·cases D
 ·have D:some b=some g:=D;injection D with D;subst D;rw [M] at I;injection I with I;injection I with _ ht;exact J ht
theorem fz.grown {w w':World} {fs:List an} {B n:Nat} {v:Value} {xs:List Value} (h:fz w fs) (I:w.ownsRow B 46 2 v n xs) (J:w.grownBy w' v.ownBlock):fz w' fs:=fun j hj=>by obtain ⟨b,e,D⟩:=h j hj;exact ⟨b,e,(J.block b (Array.getElem?_eq_some_iff.1 D).1 (nD I D (by decide))).trans D⟩
theorem fz.snoc {w:World} {fs:List an} {i b:Nat} (h:fz w fs) (D:fs.length=i) (I:w.heap[b]? = some (.cells (aH mu) 5 (12,13))):fz w (fs++[⟨bO i,mu,some ⟨b,0,none⟩,12,false,(⟨#[]⟩:BA),-1,0⟩]):=fun j hj=>by
 by_cases e:j<fs.length
 ·rw [List.getElem_append_left e];exact h j e
 ·(have:j=i:=by simp at hj;omega);subst this;rw [List.getElem_append_right (by omega)];exact ⟨b,by simp [D],I⟩
def td (w:World) (e:Ending) (w':World):Prop:=Below w.heap.size w w'∧∃ b o c,e=.returned (.tuple #[.agg #[.string (⟨#[]⟩:BA),.slice none 0 0],.slice (some ⟨b,o,none⟩) 1 c])∧b<w'.heap.size∧w'.cell? ⟨b,o+1,none⟩=some (.string (⟨#[]⟩:BA))
theorem rn (k0:Nat) (A:Option Addr) (n c:Nat) (M:Value) (w:World) (I:64<n) :
  CallsIn Fence.wide k0 Tryz.prog 9 #[M,.slice A n c,.slice none 0 0] w (td w):=by
 (have J:(n:Int)>64:=by omega);have D:ac (((w.alloc (.cells #[.slice none 0 0] 24)).alloc (.cells #[.string (⟨#[]⟩:BA),.slice none 0 0] 31)).alloc (.cells #[.string (⟨#[109,111,100]⟩:BA),.string (⟨#[]⟩:BA),.int .i64 0] 38)) (w.heap.size+1) 31 #[.string (⟨#[]⟩:BA),.slice none 0 0]:=(ac.new_at (by simp) _ _).alloc _;refine callsIn_of_wp_marks Tryz.func9 rfl trivial ?_ rfl;simp only [Tryz.ntmps9,List.size_toArray,List.length_cons,List.length_nil,Nat.reduceAdd,Nat.reduceSub,Array.replicate_succ,Array.replicate_zero,List.push_toArray,List.append_toArray,List.nil_append,List.cons_append]
 gi_wp2
 refine ⟨_,dY rfl _ rfl rfl D,bel,w.heap.size+1+1,0,1,rfl,by simp,?_⟩;exact ((ac.new_at (w:=(w.alloc (.cells #[.slice none 0 0] 24)).alloc (.cells #[.string (⟨#[]⟩:BA),.slice none 0 0] 31)) (n:=w.heap.size+1+1) (by simp) 38 #[.string (⟨#[109,111,100]⟩:BA),.string (⟨#[]⟩:BA),.int .i64 0]).cell 1).trans rfl
theorem uM (fs:List an) (A:Option Addr) (c:Nat) (Am:Option Addr) (cm:Nat) (w:World) (M:aL w Am cm iw) (k:cI w) (q:ae w w.heap.size 2 A fs.length (cB (fs.map an.fil))) (K:fz w fs) :
  Calls Tryz.prog 9 #[.slice Am 8 cm,.slice A fs.length c,.slice none 0 0] w fun e w'=>Below w.heap.size w w' ∧
   ((0<fs.length∧fs.length≤64∧∃ Au cu,e=.returned (.tuple #[.agg #[.string (⟨#[97]⟩:BA),.slice Au fs.length cu],.slice none 0 0]))∨((64<fs.length∨fs.length=0)∧td w e w')):=by
 by_cases U:64<fs.length
 ·exact (callsIn_wide.1 (rn 0 A fs.length c _ w U)).mono fun e w' h=>⟨h.1,.inr ⟨.inl U,h⟩⟩
 (have J:fs.length≤64:=by omega);have D:=nC (tb K J) fs.length (Nat.le_refl _);rw [List.take_length] at D;refine (nu fs A c Am cm iw [dA] w (by decide) M k.tab oM (.inl rfl) q J (fun x hx=>?_) (oQ (by simpa using J) (tc K J)) fun i hi _=>?_).mono fun e w' h=>?_
 ·obtain ⟨j,r,rfl⟩:=List.mem_iff_getElem.1 hx;obtain ⟨b,e,-⟩:=K j r;rw [e];show (bO j).size≤1000;unfold bO;rw [ByteArray.size_append];have:(eS j).size=2:=rfl;have:((⟨#[46,103,111]⟩:BA):ByteArray).size=3:=rfl;omega
 ·obtain ⟨b,e,u⟩:=K i hi;rw [e];exact tZ _ _ _ (nw u) k
 ·obtain ⟨hb,h⟩:=h;rw [D.1,D.2] at h;refine ⟨hb,?_⟩;rcases h with ⟨-,O,Au,cu,xs,Q,-,-⟩ | ⟨N,Af,cf,Q,I⟩
  ·exact .inl ⟨List.length_pos_iff.2 O,J,Au,cu,Q⟩
  ·have z:fs=[]:=by
    by_cases h:fs=[]
    ·exact h
    ·exact absurd ⟨rfl,h⟩ N
   refine .inr ⟨.inr (by rw [z];rfl),hb,?_⟩;have I:ae w' w'.heap.size 3 Af 1 (ir [(⟨#[]⟩:BA)]):=I;obtain ⟨b,o,rfl,S,y⟩:=ix I (by omega) (by decide);exact ⟨b,o,cf,Q,S,y 1 _ rfl⟩
theorem te (x:Nat) (hx:x<256) (w:World) (hT:cI w) :
  Calls Tryz.prog 4 #[.int .u8 x] w fun e w'=>e=.returned (.bool true)∧Below w.heap.size w w':=by
 obtain ⟨j0,hj,g0,gz,gy⟩:=info_parts md;obtain ⟨k,hk⟩:∃ k,k=x % 200:=⟨_,rfl⟩;(have g8:k<200:=by omega);(have gr:(x:Int) % 200=(k:Int):=by omega);have HK:=hid hk;have HT:=hid hT;clear hk hT;(go_enter Tryz.func4,Tryz.ntmps4);(go_wp2_with fail);rw [gr];clear gr;go_loopg [3,5] k (fun g u3 u5 wr=>∃ (i:Nat) (fs:List an),i≤k∧k-i≤g∧u5=.int .i64 (i:Int)∧fs.length=i∧wr.ownsRow w.heap.size 46 2 u3 i (cB (fs.map an.fil))∧fz wr fs∧Below w.heap.size w wr)
 case atStart=>exact ⟨0,[],Nat.zero_le _,by omega,rfl,rfl,World.ownsRow_nil _ _ _ _,fun j h=>absurd h (Nat.not_lt_zero j),Below.refl _ _⟩
 case round=>
  obtain ⟨i,fs,hi,hg,rfl,S,D,N,hB⟩:=hrel;have gw:=hid S;have gh:=hid D;have gg:=hid N;have HB:=hid hB;have g1:=hB.size;by_cases g7:i<k
  ·clear S D N hB;(have gq:(i:Int)<(k:Int):=by omega);(have gs:aH (eS i) = #[.int .u8 (97+(i:Int) / 26),.int .u8 (97+(i:Int) % 26)]:=by unfold aH eS;simp;omega);have J:=(nw (w:=wr.alloc (.cells (aH (eS i)) 5)) (s:=eS i) (heap_alloc_new wr _)).conv;rw [gs,show (eS i).size=2 from rfl] at J;have g6:(eS i).size≤2:=Nat.le_refl 2;(have yk:aH mu = #[.int .u8 112,.int .u8 97,.int .u8 99,.int .u8 107,.int .u8 97,.int .u8 103,.int .u8 101,.int .u8 32,.int .u8 109,.int .u8 97,.int .u8 105,.int .u8 110]:=by kernel_rfl);have ge:=run_convert_bytes_const_at (P:=Tryz.prog) (wr.alloc (.cells #[.int .u8 (97+(i:Int) / 26),.int .u8 (97+(i:Int) % 26)] 5)) 22 5 (aH mu) 12 12 (wr.heap.size+1) (by simp) Tryz.underlying22 Tryz.underlying5;rw [show (aH mu).size=12 by kernel_rfl,yk] at ge;(have gn:(((wr.alloc (.cells #[.int .u8 (97+(i:Int) / 26),.int .u8 (97+(i:Int) % 26)] 5)).alloc (.cells #[.int .u8 112,.int .u8 97,.int .u8 99,.int .u8 107,.int .u8 97,.int .u8 103,.int .u8 101,.int .u8 32,.int .u8 109,.int .u8 97,.int .u8 105,.int .u8 110] 5 (12,13))).alloc (.cells #[.string (eS i++(⟨#[46,103,111]⟩:BA)),.slice (some ⟨wr.heap.size+1,0,none⟩) 12 12] 46)).heap.size=wr.heap.size+3:=by simp);have gj:=hid (show ae (((wr.alloc (.cells #[.int .u8 (97+(i:Int) / 26),.int .u8 (97+(i:Int) % 26)] 5)).alloc (.cells #[.int .u8 112,.int .u8 97,.int .u8 99,.int .u8 107,.int .u8 97,.int .u8 103,.int .u8 101,.int .u8 32,.int .u8 109,.int .u8 97,.int .u8 105,.int .u8 110] 5 (12,13))).alloc (.cells #[.string (eS i++(⟨#[46,103,111]⟩:BA)),.slice (some ⟨wr.heap.size+1,0,none⟩) 12 12] 46)) (wr.heap.size+3) 2 (some ⟨wr.heap.size+1+1,0,none⟩) 1 [.string (eS i++(⟨#[46,103,111]⟩:BA)),.slice (some ⟨wr.heap.size+1,0,none⟩) 12 12] from aX (cs:=[.string (eS i++(⟨#[46,103,111]⟩:BA)),.slice (some ⟨wr.heap.size+1,0,none⟩) 12 12]) (cz (by simp) _) rfl (by omega));have gi:=hid (show ∀ u∈[Value.string (eS i++(⟨#[46,103,111]⟩:BA)),.slice (some ⟨wr.heap.size+1,0,none⟩) 12 12],u.oneCell'=true from fun u hu=>by simp only [List.mem_cons,List.not_mem_nil,or_false] at hu;rcases hu with rfl | rfl <;> rfl);have M:=hid (show Below wr.heap.size wr (((wr.alloc (.cells #[.int .u8 (97+(i:Int) / 26),.int .u8 (97+(i:Int) % 26)] 5)).alloc (.cells #[.int .u8 112,.int .u8 97,.int .u8 99,.int .u8 107,.int .u8 97,.int .u8 103,.int .u8 101,.int .u8 32,.int .u8 109,.int .u8 97,.int .u8 105,.int .u8 110] 5 (12,13))).alloc (.cells #[.string (eS i++(⟨#[46,103,111]⟩:BA)),.slice (some ⟨wr.heap.size+1,0,none⟩) 12 12] 46)) from bel);have gb:=hid (World.ownsRow.alloc (World.ownsRow.alloc (World.ownsRow.alloc gh.out (.cells #[.int .u8 (97+(i:Int) / 26),.int .u8 (97+(i:Int) % 26)] 5)) (.cells #[.int .u8 112,.int .u8 97,.int .u8 99,.int .u8 107,.int .u8 97,.int .u8 103,.int .u8 101,.int .u8 32,.int .u8 109,.int .u8 97,.int .u8 105,.int .u8 110] 5 (12,13))) (.cells #[.string (eS i++(⟨#[46,103,111]⟩:BA)),.slice (some ⟨wr.heap.size+1,0,none⟩) 12 12] 46));have gv:=hid (show (((wr.alloc (.cells #[.int .u8 (97+(i:Int) / 26),.int .u8 (97+(i:Int) % 26)] 5)).alloc (.cells #[.int .u8 112,.int .u8 97,.int .u8 99,.int .u8 107,.int .u8 97,.int .u8 103,.int .u8 101,.int .u8 32,.int .u8 109,.int .u8 97,.int .u8 105,.int .u8 110] 5 (12,13))).alloc (.cells #[.string (eS i++(⟨#[46,103,111]⟩:BA)),.slice (some ⟨wr.heap.size+1,0,none⟩) 12 12] 46)).heap[wr.heap.size+1]? = some (.cells (aH mu) 5 (12,13)) by rw [yk];exact eG (cz (by simp) _) _);have gm:=hid gn;clear yk gs gn;go_wp2_with (at_builtin;refine c9 _ rfl (.tmp 16) (.tmp 31) 35 rfl w.heap.size 46 j0 _ 2 40 Tryz.underlying35 hj g0 gz gy rfl (by omega) u3 i _ rfl gb.out (wr.heap.size+3) (some ⟨wr.heap.size+1+1,0,none⟩) 1 1 _ rfl gj.out gi.out (by unfold maxLen;omega) (by omega) (by rw [gm.out];omega) ?_;intro v' w3 hown3 z hat3);have gp:=(fz.grown (gg.out.below M.out) gb.out z).snoc gw.out ((z.block (wr.heap.size+1) (by rw [gm.out];omega) (nD gb.out gv.out (by decide))).trans gv.out);have I:Below w.heap.size w w3:=(HB.out.trans (M.out.mono g1)).grown z (by rw [gm.out];omega) (fun g hg=>(gb.out.lt g hg).1);have g4:=hid hown3;have g3:=hid gp;have g5:=hid I;clear hown3 z hat3 gp I J ge gj gi;go_roundg (k-(i+1))
   case measure=>omega
   case rel=>exact ⟨i+1,fs++[⟨bO i,mu,some ⟨wr.heap.size+1,0,none⟩,12,false,(⟨#[]⟩:BA),-1,0⟩],by omega,Nat.le_refl _,by go_num,by simp [gw.out],by unfold cB;rw [List.map_append,List.flatMap_append];exact g4.out,g3.out,g5.out⟩
  ·(have gq:¬ (i:Int)<(k:Int):=by omega);(obtain rfl:i=k:=by omega);obtain ⟨A',c',rfl,-⟩:=bG D;have hr:=ae.of_own D;obtain ⟨W1,q⟩:∃ W1,W1=wr.alloc (.cells (aH iw) 5 (8,9)):=⟨_,rfl⟩
   (have Q:Below wr.heap.size wr W1:=by rw [q];exact bel);(have hm:W1.heap[wr.heap.size]? = some (.cells (aH iw) 5 (8,9)):=by rw [q];exact heap_alloc_new wr _);have gu:=HT.out.below (ah HB.out Q);have HL:=uM fs A' c' (some ⟨wr.heap.size,0,none⟩) 8 W1 (nw hm) gu (by rw [S];exact (hr.below Q).more Q.size) (N.below Q);rw [S] at HL;have HL:=hid HL;have J:=run_convert_bytes_const_at (P:=Tryz.prog) wr 22 5 (aH iw) 8 8 wr.heap.size rfl Tryz.underlying22 Tryz.underlying5;rw [show (aH iw).size=8 by kernel_rfl] at J;rw [show aH iw = #[.int .u8 109,.int .u8 111,.int .u8 100,.int .u8 117,.int .u8 108,.int .u8 101,.int .u8 32,.int .u8 97] by kernel_rfl] at J q;have gl:=hid q;have gx:=hid (ah HB.out Q);clear S D N hB hr Q hm gu q gh gg;(go_wp2_with fail);rw [←gl.out];refine HL.out.mono ?_;rintro e w2 ⟨ga,⟨h1,h2,Au,cu,rfl⟩ | ⟨h1,-,b,o,c,rfl,gt,hc⟩⟩
   ·have y:=ah gx.out ga;have O:Below w2.heap.size w2 (w2.alloc (.cells #[.string (⟨#[97]⟩:BA),.slice Au i cu] 31)):=bel;have r:=ac.new w2 31 #[.string (⟨#[97]⟩:BA),.slice Au i cu];have l1:=(r.cell 1).trans rfl;have K:=ah y O;have gd:=hid (fy _ (HT.out.below K));(have d1:¬ (i:Int)>64:=by omega);have d2:decide ((i:Int)>64)=false:=decide_eq_false d1;(have d3:((i:Int)==0)=false:=by rw [beq_eq_false_iff_ne];omega);(have d4:(i==0)=false:=by rw [beq_eq_false_iff_ne];omega);have d5:decide (64<i)=false:=decide_eq_false (by omega);have M:=hid K;clear ga O r y K J HL gl;(go_wp2_with fail);refine gd.out.mono ?_;rintro e w4 ⟨rfl,U⟩;have I:=ah M.out U;(go_wp2_with fail);go_ret;exact ⟨rfl,I⟩
   ·have y:=ah gx.out ga;have O:Below w2.heap.size w2 (w2.alloc (.cells #[.string (⟨#[]⟩:BA),.slice none 0 0] 31)):=bel;have r:=ac.new w2 31 #[.string (⟨#[]⟩:BA),.slice none 0 0];have l1:=(r.cell 1).trans rfl;have g9:=(O.cell (p:=⟨b,o+1,none⟩) gt).trans hc;have K:=ah y O;have gd:=hid (fy _ (HT.out.below K));have M:=hid K;clear ga O r y K J HL gl hc gt;by_cases g2:64<i
    ·(have d1:(i:Int)>64:=by omega);have d2:decide ((i:Int)>64)=true:=decide_eq_true d1;have d5:decide (64<i)=true:=decide_eq_true g2;clear h1;(go_wp2_with fail);refine gd.out.mono ?_;rintro e w4 ⟨rfl,U⟩;have I:=ah M.out U;(go_wp2_with fail);go_ret;exact ⟨rfl,I⟩
    ·(obtain rfl:i=0:=by omega);clear h1;(go_wp2_with fail);refine gd.out.mono ?_;rintro e w4 ⟨rfl,U⟩;have I:=ah M.out U;(go_wp2_with fail);go_ret;exact ⟨rfl,I⟩
end
end Go.Proofs.YtmmjgmcfdnkomaaGreatDoor

/-
  Parts of the proof: Ldigits Lnum Lpart Lquot Lcatch Ltext. By an AI agent.
-/
import Derived.Test.YtmmjgmcfdnkomaaGreatDoorL05
import Derived.Maps.Own
import Derived.Maps.OwnSet
import Derived.Maps.Views
import Derived.Deep.RegionLaw
import Derived.Maps.OwnOps
import Derived.BigQuiet
import Derived.Defers
import Derived.Recover
import Derived.StillTailTactics
set_option maxRecDepth 100000
set_option maxHeartbeats 8000000
namespace Go.Proofs.YtmmjgmcfdnkomaaGreatDoor
section
open Go.RowKit Go.Lib Go.Proofs
attribute [local go_sem ↓] Go.wp_at_zero Go.wp_at_succ
def aw:Ending:=.panicked [{ v:=.iface 237 (.agg #[]),recovered:=false }]
theorem a6 (w:World):Calls Tryz.prog 191 #[.bool true] w fun e w'=>e=.returned (.tuple #[])∧w=w':=by (go_enter Tryz.func191,Tryz.ntmps191);(go_wp2_with fail);go_end0;exact ⟨rfl,rfl⟩
theorem aN (w:World):Calls Tryz.prog 191 #[.bool false] w fun e w'=>e=aw∧w=w':=by (go_enter Tryz.func191,Tryz.ntmps191);(go_wp2_with fail);exact ⟨rfl,rfl,rfl⟩
def tM (w:World) (r:Option Nat) (e:Ending) (w':World):Prop:=
 Below w.heap.size w w'∧match r with
 | some v=>e=.returned (.int .i64 (v:Int))
 | none=>e=aw
def iF (radix:Nat) (r:List UInt8) (v:Nat):Option Nat→Option Nat
 | none=>none
 | some d=>if d<radix then bJ radix r (v * radix+d) else none
theorem fV (radix:Nat) (c:UInt8) (r:List UInt8) (v:Nat):bJ radix (c::r) v=iF radix r v (bC c.toNat):=by rw [bJ];cases bC c.toNat <;> rfl
theorem pO (c d:Nat) (D:bC c=some d):d≤15:=by
 unfold bC at D;split at D
 ·injection D with D;omega
 ·split at D
  ·injection D with D;omega
  ·split at D
   ·injection D with D;omega
   ·cases D
theorem fW (c:Nat) (h:128≤c):bC c=none:=by unfold bC;rw [if_neg (by omega),if_neg (by omega),if_neg (by omega)]
theorem oo (s:ByteArray) (i:Nat):(Utf8.decode s i).1<2000000:=by
 have I:=eJ s i;rw [dv,rp];split
 ·simp only;omega
 ·split
  ·split <;> simp only <;> omega
  ·split
   ·split <;> simp only <;> omega
   ·split
    ·split
     ·rename_i D;have:=D.2;unfold Utf8.valid at this;simp at this;simp only;omega
     ·simp only;omega
    ·simp only;omega
theorem mg (s:ByteArray) (n:Nat):(s.extract 0 n).data.toList=s.data.toList.take n:=by rw [Lib.extract_data];simp
theorem d8 (s:ByteArray) (n radix:Nat) (hn:n≤8) (hr:radix≤16) (w:World) :
  Calls Tryz.prog 286 #[.string s,.int .i64 (n:Int),.int .i64 (radix:Int)] w (tM w (aC s.data.toList n radix)):=by
 obtain ⟨R,hR⟩:∃ R,R=aC s.data.toList n radix:=⟨_,rfl⟩;rw [←hR];have HR:=hid hR;clear hR;have Q:s.data.toList.length=s.size:=rfl;by_cases N:n≤s.size
 rotate_left
 ·have O:=hid (show R=none by rw [HR.out,aC,if_neg (by rw [Q];exact N)]);(have hd:decide (n≤s.size)=false:=by rw [decide_eq_false_iff_not];exact N);(have gj:decide ((n:Int)≤(s.size:Int))=false:=by rw [decide_eq_false_iff_not];omega);clear N HR Q;(go_enter Tryz.func286,Tryz.ntmps286);(go_wp2_with fail);refine (aN _).mono ?_;rintro e w2 ⟨rfl,rfl⟩;unfold aw;refine ⟨rfl,?_⟩;rw [O.out];exact ⟨Below.refl _ _,rfl⟩
 have gg:=hid (show bJ radix ((s.extract 0 n).data.toList) 0=R by rw [HR.out,aC,if_pos (by rw [Q];exact N),mg]);have yk:=hid (show (s.extract 0 n).size=n by rw [ByteArray.size_extract];omega);(have hd:decide (n≤s.size)=true:=by rw [decide_eq_true_iff];exact N);(have gj:decide ((n:Int)≤(s.size:Int))=true:=by rw [decide_eq_true_iff];omega);(have p0:(0:Int)≤(n:Int):=by omega);clear HR Q;(go_enter Tryz.func286,Tryz.ntmps286);(go_wp2_with fail);refine (a6 _).mono ?_;rintro e w2 ⟨rfl,rfl⟩;(go_wp2_with fail);have h:=World.iter_heap w (s.extract 0 n) 0;have ge:Below w.heap.size w (w.iter (s.extract 0 n) 0):=(Below.refl _ w).alloc (Nat.le_refl _) _;generalize s.extract 0 n=t at *;(have gq:t.size≤8:=by have:=yk.out;omega);go_loopg [7,9,10,20,21] t.size (fun g u7 _ _ _ _ wr=>∃ j v:Nat,j≤t.size∧t.size-j≤g∧wr.heap[w.heap.size]? = some (.stringIter t j)∧Below w.heap.size w wr∧u7=.int .i64 (v:Int)∧v<16 ^ j∧bJ radix (t.data.toList.drop j) v=R)
 case atStart=>exact ⟨0,0,Nat.zero_le _,by omega,h,ge,rfl,by decide,by rw [List.drop_zero];exact gg.out⟩
 case round=>
  clear h ge gg;obtain ⟨j,v,hj,gr,hit,hB,rfl,gn,hq⟩:=hrel;have y:=hid hit;have HQ:=hid hq;clear hit hq;(have gp:v<4294967296:=by have h1:(16:Nat) ^ j≤16 ^ 8:=Nat.pow_le_pow_right (by omega) (by omega);(have h2:(16:Nat) ^ 8=4294967296:=by decide);omega);by_cases J:j<t.size
  ·have D:=fun ty=>run_next_any_at (P:=Tryz.prog) wr w.heap.size t j ty y.out J;obtain ⟨c,rr,S,x,u⟩:=d6 t j J;by_cases U:af t j<128
   ·have gd:=dL t j U;rw [gd] at D;have M:=hid (show iF radix rr v (bC (af t j))=R by rw [←HQ.out,S,fV,x]);have gl:=hid u;have j1:=iterAt_heap wr w.heap.size t j (j+1) y.out;have o:Below w.heap.size w (wr.iterAt w.heap.size t (j+1)):=ao hB (Nat.le_refl _);generalize wr.iterAt w.heap.size t (j+1)=W1 at D j1 o;have J1:=hid j1;clear gd S x u j1 HQ;generalize af t j=bb at *;cases I:bC bb with
    | none=>have O:=hid (show R=none by rw [←M.out,I];rfl);(have K:eC bb = -1:=by unfold eC;rw [I]);clear M I;(go_wp2_with fail);refine (dD bb (by omega) _).mono ?_;rw [K];rintro e w3 ⟨rfl,rfl⟩;(go_wp2_with fail);refine (aN _).mono ?_;rintro e w3 ⟨rfl,rfl⟩;unfold aw;refine ⟨rfl,?_⟩;rw [O.out];exact ⟨o,rfl⟩
    | some d=>
     (have K:eC bb=(d:Int):=by unfold eC;rw [I]);have gm:=pO bb d I;(have e0:decide ((0:Int)≤(d:Int))=true:=by rw [decide_eq_true_iff];omega);by_cases gb:d<radix
     ·have O:=hid (show bJ radix rr (v * radix+d)=R by rw [←M.out,I,iF,if_pos gb]);(have e1:decide ((d:Int)<(radix:Int))=true:=by rw [decide_eq_true_iff];omega);have hp:v * radix≤4294967295 * 16:=Nat.mul_le_mul (by omega) hr;(have gh:v * radix+d<16 ^ (j+1):=by have h1:v * radix≤v * 16:=Nat.mul_le_mul_left _ hr;rw [Nat.pow_succ];omega);(have q1:IntKind.i64.wrap ((v:Int) * (radix:Int))=((v * radix:Nat):Int):=by rw [show (v:Int) * (radix:Int)=((v * radix:Nat):Int) by simp];exact IntWalk.i64_in _ (by omega));clear M I;generalize v * radix=p at *;have q2:IntKind.i64.wrap ((p:Int)+(d:Int))=(p:Int)+(d:Int):=IntWalk.i64_in _ (by omega);(go_wp2_with fail);refine (dD bb (by omega) _).mono ?_;rw [K];rintro e w3 ⟨rfl,rfl⟩;(go_wp2_with fail);refine (a6 _).mono ?_;rintro e w3 ⟨rfl,rfl⟩;(go_wp2_with fail);go_roundg (t.size-(j+1))
      case measure=>omega
      case rel=>exact ⟨j+1,p+d,by omega,Nat.le_refl _,J1.out,o,by go_num,gh,by rw [←gl.out];exact O.out⟩
     ·have O:=hid (show R=none by rw [←M.out,I,iF,if_neg gb]);(have e1:decide ((d:Int)<(radix:Int))=false:=by rw [decide_eq_false_iff_not];omega);clear M I;(go_wp2_with fail);refine (dD bb (by omega) _).mono ?_;rw [K];rintro e w3 ⟨rfl,rfl⟩;(go_wp2_with fail);refine (aN _).mono ?_;rintro e w3 ⟨rfl,rfl⟩;unfold aw;refine ⟨rfl,?_⟩;rw [O.out];exact ⟨o,rfl⟩
   ·have hh:=decode_high t j J (by omega);have z:=oo t j;have O:=hid (show R=none by rw [←HQ.out,S,fV,fW _ (by omega)];rfl);have ga:=hh.1;clear hh U S x u;generalize Utf8.decode t j=q at *;obtain ⟨r,k⟩:=q;simp only at ga D z;have o:Below w.heap.size w (wr.iterAt w.heap.size t (j+k)):=ao hB (Nat.le_refl _);generalize wr.iterAt w.heap.size t (j+k)=W1 at D o;(have K:eC r = -1:=by unfold eC;rw [fW r ga]);(go_wp2_with fail);refine (dD r z _).mono ?_;rw [K];rintro e w3 ⟨rfl,rfl⟩;(go_wp2_with fail);refine (aN _).mono ?_;rintro e w3 ⟨rfl,rfl⟩;unfold aw;refine ⟨rfl,?_⟩;rw [O.out];exact ⟨o,rfl⟩
  ·have gi:=fun ty=>run_next_end_at (P:=Tryz.prog) wr w.heap.size t j ty y.out J;have O:=hid (show R=some v by rw [←HQ.out,List.drop_of_length_le (by have:t.data.toList.length=t.size:=rfl;omega),bJ]);(go_wp2_with fail);go_ret;rw [O.out];exact ⟨hB,rfl⟩
def o5:List (Int × Int):=[(97,7),(98,8),(102,12),(110,10),(114,13),(116,9),(118,11),(92,92),(34,34)]
def oq {H:Type} (D:DataW H):List (Int × Int)→DataW H
 | []=>D
 | p::r=>oq (D.put (.int .u8 p.1) (.lit (.int .u8 p.2))) r
theorem fX {H:Type} (w:World) {ops:Array Oper} {rest:List Oper} {o:Oper} {a:Act} {Q:Exit→Act→World→Prop}
  (j:o.guard=none) (m:Operand) (kk vv:Int) (N:o.op=Op.insert 292 m (.const (.int .u8 kk)) (.const (.int .u8 vv))) (x:0≤kk∧kk≤255) (U:0≤vv∧vv≤255) (b n:Nat) (D:DataW H)
  (h:a.eval m=.map (some b)) (J:w.ownsMap Tryz.prog 5 (plainElem Tryz.prog 5) b n D) (u:n<100)
  (k:∀ w',w'.ownsMap Tryz.prog 5 (plainElem Tryz.prog 5) b (n+1) (D.put (.int .u8 kk) (.lit (.int .u8 vv)))→w.grownBy w' (some b)→wpList Tryz.prog ops Q rest (a.put o.dst undef) w') :
  wpList Tryz.prog ops Q (o::rest) a w:=by refine wpList_plain j fun K' hK'=>?_;(have M:(Lit.int .u8 kk).wf=true:=by simp [Lit.wf,IntKind.min,IntKind.max,IntKind.signed,IntKind.bits];omega);(have K:(Lit.int .u8 vv).wf=true:=by simp [Lit.wf,IntKind.min,IntKind.max,IntKind.signed,IntKind.bits];omega);obtain ⟨w',I,S,O⟩:=J.update (Maps.int_keyed Tryz.underlying5) Tryz.underlying292 (by unfold maxLen;omega) (Maps.keyOf_int_mk Tryz.underlying5 M) (plainElem_int Tryz.underlying5 K);unfold Oper.wp;have r:a.eval (.const (.int .u8 kk))=.int .u8 kk:=rfl;have q:a.eval (.const (.int .u8 vv))=.int .u8 vv:=rfl;simp [execOp,N,h,r,q,I,Result.andThen];exact hK' _ _ (k w' S O)
theorem uu (w7:World) (g7 c7:Nat) (h:w7.cell? ⟨g7,0,none⟩=some (.int .u8 48)):(convert 22 9 (.slice (some ⟨g7,0,none⟩) 1 c7)).run Tryz.prog w7=.ok (.string ⟨#[48]⟩) w7:=
 run_convert_bytes_back (P:=Tryz.prog) w7 22 9 5 ⟨g7,0,none⟩ c7 [48] Tryz.underlying22 Tryz.underlying5 Tryz.underlying9 (fun j hj=>by (obtain rfl:j=0:=by simpa using hj);exact h)
theorem lQ {B:Nat} {w w':World} {e:TypeId} {n:Nat} {v:Value} {xs:List Value} (h:w.ownsRow B e 1 v n xs) (D:∀ g,v.ownBlock=some g→w'.heap[g]? = w.heap[g]?):w'.ownsRow B e 1 v n xs:=by
 refine ⟨h.1,?_⟩;rcases h.2 with K | ⟨g,cap,cur,e,J,I,r⟩
 ·exact .inl K
 ·exact .inr ⟨g,cap,cur,e,J,(D g (by rw [e];rfl)).trans I,r⟩
theorem sn (s:ByteArray) (w:World) (I:s.size<2∨af s 0≠48):Calls Tryz.prog 187 #[.string s] w fun e w'=>e=.returned (.tuple #[.int .i64 10,.string s])∧w=w':=by
 by_cases D:s.size<2
 ·(have K:decide ((s.size:Int)<2)=true:=by rw [decide_eq_true_iff];omega);clear D;(go_enter Tryz.func187,Tryz.ntmps187);(go_wp2_with fail);go_ret2;exact ⟨rfl,rfl⟩
 (have K:decide ((s.size:Int)<2)=false:=by rw [decide_eq_false_iff_not];omega);have J:∀ W,(Instr.index 9 (.string s) (.int .i64 0)).run Tryz.prog W=.ok (.int .u8 (af s 0:Int)) W:=fun W=>cc s 0 (by omega) W;generalize af s 0=a at *;(have ea:((a:Int) != 48)=true:=by rw [bne_iff_ne];omega);clear I D;(go_enter Tryz.func187,Tryz.ntmps187);(go_wp2_with fail);go_ret2;exact ⟨rfl,rfl⟩
def d9 (v:List Nat):ByteArray:=⟨((if v=[] then [0] else v.reverse).map fun d=>UInt8.ofNat (48+d)).toArray⟩
def mh:List UInt8→List Nat→List Nat
 | [],v=>v
 | c::r,v=>mh r (aT 10 v (c.toNat-48))
theorem iu:∀ (v:List Nat) (m:Nat),m<10→(∀ x∈v,x<10)→v≠[]→v.getLast? ≠ some 0→aT 10 v m=m::v
 | [],_,_,_,h,_=>absurd rfl h
 | [x],m,K,D,_,J=>by have I:=D x (by simp);have M:x≠0:=fun e=>J (by rw [e];rfl);rw [aT,aT,show (x * 10+m) % 10=m by omega,show (x * 10+m) / 10=x by omega];unfold bT;rw [if_neg M,if_pos I]
 | x::y::v,m,K,D,_,J=>by have I:=D x (by simp);rw [aT,show (x * 10+m) % 10=m by omega,show (x * 10+m) / 10=x by omega,iu (y::v) x I (fun z hz=>D z (by simp at hz ⊢;exact .inr hz)) (by simp) (by rwa [List.getLast?_cons_cons] at J)]
theorem iv:∀ (l:List UInt8) (v:List Nat),l.all bx=true→(∀ x∈v,x<10)→v≠[]→v.getLast? ≠ some 0→mh l v=(l.map fun c=>c.toNat-48).reverse++v
 | [],v,_,_,_,_=>rfl
 | c::r,v,I,J,K,M=>by rw [List.all_cons,Bool.and_eq_true] at I;have D:=I.1;unfold bx at D;rw [Bool.and_eq_true,decide_eq_true_eq,decide_eq_true_eq] at D;have O:48≤c.toNat:=D.1;have N:c.toNat≤57:=D.2;rw [mh,iu v _ (by omega) J K M,iv r _ I.2 (fun x hx=>by rcases List.mem_cons.1 hx with rfl | hx;omega;exact J x hx) (by simp) (by cases v with | nil=>exact absurd rfl K | cons y v=>rwa [List.getLast?_cons_cons])];simp
theorem ii {c:UInt8} (h:bx c=true):48≤c.toNat∧c.toNat≤57:=by unfold bx at h;rw [Bool.and_eq_true,decide_eq_true_eq,decide_eq_true_eq] at h;exact h
theorem pP {s:ByteArray} (h:cG s=true):(1≤s.size∧s.size≤200)∧(s.size<2∨af s 0≠48)∧s.data.toList.all bx=true∧d9 (mh s.data.toList [])=s:=by
 unfold cG at h;rw [Bool.and_eq_true,Bool.or_eq_true,decide_eq_true_eq] at h;obtain ⟨D,h⟩:=h;rcases h with rfl | h
 ·decide +kernel
 ·rw [Bool.and_eq_true,Bool.and_eq_true,decide_eq_true_eq,decide_eq_true_eq,decide_eq_true_eq] at h;obtain ⟨O,N,M⟩:=h;obtain ⟨⟨l⟩⟩:=s;cases l with
  | nil=>exact absurd rfl O
  | cons a r=>have J:a≠48:=fun e=>M (by rw [e];rfl);have I:a.toNat≠48:=fun e=>J (UInt8.toNat_inj.1 e);refine ⟨⟨Nat.succ_le_succ (Nat.zero_le _),N⟩,.inr I,D,?_⟩;have D:(a::r).all bx=true:=D;rw [List.all_cons,Bool.and_eq_true] at D;have Q:=ii D.1;show d9 (mh (a::r) [])=_;rw [mh,aT,bT,if_neg (by omega),if_pos (by omega),iv r [a.toNat-48] D.2 (fun x hx=>by simp at hx;omega) (by simp) (by simp;omega)];unfold d9;rw [if_neg (by simp),List.reverse_append,List.reverse_reverse];congr 2;show UInt8.ofNat (48+(a.toNat-48))::(r.map fun c=>c.toNat-48).map (fun d=>UInt8.ofNat (48+d))=a::r;rw [show 48+(a.toNat-48)=a.toNat by omega,UInt8.ofNat_toNat,List.map_map];congr 1;(conv=>rhs;rw [←List.map_id r]);refine List.map_congr_left fun c K=>?_;have K:=ii (List.all_eq_true.1 D.2 c K);show UInt8.ofNat (48+(c.toNat-48))=c;rw [show 48+(c.toNat-48)=c.toNat by omega,UInt8.ofNat_toNat]
theorem ot (t:ByteArray) (w:World) (hp:cG t=true):Calls Tryz.prog 143 #[.string t] w fun e w'=>e=.returned (.tuple #[.string t,.int .i64 0])∧Below w.heap.size w w':=by
 obtain ⟨⟨gn,jh⟩,hz,ga,gb⟩:=pP hp;have ha:=hid (sn t w hz);have HF:=hid (show ∀ j,j<t.size→∃ c rr,t.data.toList.drop j=c::rr∧c.toNat=af t j∧rr=t.data.toList.drop (j+1)∧48≤af t j∧af t j≤57 by intro j hj;obtain ⟨c,rr,h1,h2,h3⟩:=d6 t j hj;have:=ii (List.all_eq_true.1 ga c (List.mem_of_mem_drop (by rw [h1];exact List.mem_cons_self)));exact ⟨c,rr,h1,h2,h3,by omega,by omega⟩);have gd:=hid gb;(have hm:decide ((200:Int)<(t.size:Int))=false:=by rw [decide_eq_false_iff_not];omega);(have ge:t≠⟨#[]⟩:=fun h=>by rw [h] at gn;exact absurd gn (by decide));(have gs:t.toList.isEmpty=false:=by rw [ai];exact decide_eq_false ge);(have gr:(t.toList==[])=false:=by rw [←bK];exact decide_eq_false ge);have jk:∀ W,(Instr.index 9 (.string t) (.int .i64 0)).run Tryz.prog W=.ok (.int .u8 (af t 0:Int)) W:=fun W=>cc t 0 (by omega) W;(have ht:48≤af t 0∧af t 0≤57:=by obtain ⟨c,rr,-,-,-,h⟩:=HF.out 0 (by omega);exact h);generalize af t 0=h0 at *;(have hy:((h0:Int)==95)=false:=by rw [beq_eq_false_iff_ne];omega);have HZ:=hid hz;clear hp ga gb ge ht hz;(go_enter Tryz.func143,Tryz.ntmps143);(go_wp2_with fail);refine ha.out.mono ?_;rintro e w1 ⟨rfl,rfl⟩;(go_wp2_with fail);have z:=World.iter_heap w t 0;have g2:Below w.heap.size w (w.iter t 0):=(Below.refl _ w).alloc (Nat.le_refl _) _;generalize w.iter t 0=w2 at *;clear gs gr hy;go_loopg [6,7,8,10,11,35,36] t.size (fun g u6 u7 u8 _ _ _ _ wr=>∃ (j:Nat) (vl:List Nat),j≤t.size∧t.size-j≤g∧wr.heap[w.heap.size]? = some (.stringIter t j)∧eR (w.heap.size+1) wr u6 vl∧(∀ x∈vl,x≤9)∧vl.length≤2 * j∧u7=.bool false∧u8=.int .i64 (j:Int)∧Below w.heap.size w wr∧d9 (mh (t.data.toList.drop j) vl)=t)
 case atStart=>exact ⟨0,[],Nat.zero_le _,by omega,z,World.ownsRow_nil _ _ _ _,(fun x hx=>by cases hx),Nat.zero_le _,rfl,rfl,g2,by rw [List.drop_zero];exact gd.out⟩
 case round=>
  clear z g2 ha gd;obtain ⟨j,vl,hj,jl,hit,hO,h9,jg,rfl,rfl,hB,hq⟩:=hrel;have r:=hid hO;have H9:=hid h9;have HQ:=hid hq;have je:w.heap.size<wr.heap.size:=by
   rcases Nat.lt_or_ge w.heap.size wr.heap.size with h | h
   ·exact h
   ·rw [Array.getElem?_eq_none h] at hit;cases hit
  clear hO h9 hq;by_cases M:j<t.size
  ·have K:=fun ty=>run_next_any_at (P:=Tryz.prog) wr w.heap.size t j ty hit M;obtain ⟨c,rr,gv,gw,gp,gz,gy⟩:=HF.out j M;have hd:=dL t j (by omega);rw [hd] at K;have HN:=hid (show d9 (mh (t.data.toList.drop (j+1)) (aT 10 vl (af t j-48)))=t by have:=HQ.out;rw [gv,mh,gw,gp] at this;exact this);have j1:=iterAt_heap wr w.heap.size t j (j+1) hit;have j2:Below w.heap.size w (wr.iterAt w.heap.size t (j+1)):=ao hB (Nat.le_refl _);have j3:eR (w.heap.size+1) (wr.iterAt w.heap.size t (j+1)) u6 vl:=m5 r.out fun k hk _=>iterAt_other wr _ _ t _ (by omega);have g4:=hid (show w.heap.size<(wr.iterAt w.heap.size t (j+1)).heap.size by
    rcases Nat.lt_or_ge w.heap.size (wr.iterAt w.heap.size t (j+1)).heap.size with h | h
    ·exact h
    ·rw [Array.getElem?_eq_none h] at j1;cases j1)
   generalize wr.iterAt w.heap.size t (j+1)=W1 at K j1 j2 j3 g4;have J1:=hid j1;have J3:=hid j3;clear hd gv gw gp j1 j3 HQ hit;generalize af t j=bb at *;(have e1:((bb:Int)==95)=false:=by rw [beq_eq_false_iff_ne];omega);(have jn:decide ((10:Int)≤((bb-48:Nat):Int))=false:=by rw [decide_eq_false_iff_not];omega);(have jm:decide (((bb-48:Nat):Int)<0)=false:=by rw [decide_eq_false_iff_not];omega);have qm:IntKind.i64.wrap ((j:Int)+1)=(j:Int)+1:=IntWalk.i64_in _ (by omega);have g8:=hid (fun W=>dD bb (by omega) W);rw [show eC bb=((bb-48:Nat):Int) by unfold eC bC;rw [if_pos ⟨gz,gy⟩]] at g8;have h4:=hid (pN (w.heap.size+1) _ vl 10 (bb-48) W1 J3.out (by have:=g4.out;omega) H9.out (by omega) (by omega) (by omega));(have gt:bb-48≤15:=by omega);have h7:=hid (m6 10 (by omega) vl (bb-48) H9.out gt);have ji:=ig 10 vl (bb-48);clear gz gy gt;generalize bb-48=d at *;(go_wp2_with fail);refine (g8.out _).mono ?_;rintro e w3 ⟨rfl,rfl⟩;(go_wp2_with fail);refine h4.out.mono ?_;rintro e w4 ⟨v4,rfl,g1,yk⟩;have h5:=hid g1;have J4:=hid ((yk.block w.heap.size (Nat.lt_succ_self _)).trans J1.out);have jb:=hid (j2.trans (yk.mono (by omega)));clear g1 yk;(go_wp2_with fail);go_roundg (t.size-(j+1))
   case measure=>omega
   case rel=>exact ⟨j+1,aT 10 vl d,by omega,Nat.le_refl _,J4.out,h5.out,h7.out,by omega,rfl,by go_num,jb.out,HN.out⟩
  ·have hs:=fun ty=>run_next_end_at (P:=Tryz.prog) wr w.heap.size t j ty hit M;(have hn:j=t.size:=by omega);subst hn;have HN:=hid (show d9 vl=t by have:=HQ.out;rw [List.drop_of_length_le (show t.data.toList.length≤t.size from Nat.le_refl _)] at this;exact this);(have jp:((t.size:Int)==0)=false:=by rw [beq_eq_false_iff_ne];omega);have ja:=hid (show (decide ((1:Int)<(t.size:Int))&&((h0:Int)==48))=false by
    rcases HZ.out with h | h
    ·rw [show decide ((1:Int)<(t.size:Int))=false by rw [decide_eq_false_iff_not];omega];rfl
    ·rw [show ((h0:Int)==48)=false by rw [beq_eq_false_iff_ne];omega,Bool.and_false])
   clear HQ hit;obtain ⟨A6,c6,hh,jo⟩:=eP r.out;subst hh;obtain ⟨i0,hi,hf,he,hc⟩:=info_parts infoByte;(have hl:vl.length≤400:=by omega);have q1:IntKind.i64.wrap ((vl.length:Int)+1)=(vl.length:Int)+1:=IntWalk.i64_in _ (by omega);have q2:IntKind.i64.wrap ((vl.length:Int)-1)=(vl.length:Int)-1:=IntWalk.i64_in _ (by omega);cases e2:decide ((1:Int)<(t.size:Int)) <;> cases e3:((h0:Int)==48);all_goals
    first
     | (exfalso;have:=ja.out;rw [e2,e3] at this;cases this;done)
     | (
       go_wp2_with (at_make;refine wpList_make_own _ rfl (.const (.int .i64 0)) (.tmp 81) 22 rfl wr.heap.size 5 i0 _ 1 Tryz.underlying22 hi hf he .i64 .i64 _ (vl.length+1) rfl rfl (by rfl) (by rw [hc];omega) (by unfold maxLen;omega) (Nat.le_refl _) ?_;intro w5 hown5 I);have g6:=hid (show ol wr.heap.size w5 (.slice (some ⟨wr.heap.size,0,none⟩) 0 (vl.length+1)) [] from hown5);have g5:=hid (show eR (w.heap.size+1) w5 (.slice A6 vl.length c6) vl from m5 r.out fun k _ hk=>I.block k hk (by simp));have u:Below wr.heap.size wr w5:=⟨I.os,I.tape,I.output,I.size,fun k hk=>I.block k hk (by simp)⟩;have jr:=ah hB u;clear hown5 I;(go_wp2_with fail);have hw:=u.size;have jc:=H9.out;go_loopg [12,13] vl.length (fun gg u12 u13 wx=>∃ k:Nat,k≤vl.length∧k≤gg∧u13=.int .i64 ((k:Int)-1)∧ol wr.heap.size wx u12 ((vl.drop k).reverse.map fun d=>UInt8.ofNat (48+d))∧eR (w.heap.size+1) wx (.slice A6 vl.length c6) vl∧Below wr.heap.size wr wx)
       case atStart=>exact ⟨vl.length,Nat.le_refl _,Nat.le_refl _,rfl,by rw [List.drop_length];exact g6.out,g5.out,u⟩
       case round=>
        rename World=>wx;clear g6 g5 u hw;obtain ⟨k,hk,jj,rfl,gi,g0,gj⟩:=hrel;have Q:=hid gi;have gl:=hid g0;have jf:=gj.size;obtain ⟨jd,g3,y,gx⟩:=eP gi;rw [List.length_map,List.length_reverse,List.length_drop] at y gx;clear gi g0;subst y;cases k with
        | succ D=>
         rw [show ((D+1:Nat):Int)-1=(D:Int) by omega];(have gh:D<vl.length:=by omega);obtain ⟨g,c',hv,hr,ho⟩:=World.ownsRow.form gl.out (by omega);injection hv with e1 e2 e3;subst e1 e3;clear e2;have O:=World.ownsRow.cellAt gl.out D (by omega);rw [List.getElem?_map,List.getElem?_eq_getElem gh] at O;have hg:=jc _ (List.getElem_mem gh);have h8:=hid (List.drop_eq_getElem_cons gh);simp only [Option.map_some] at O;generalize vl[D]=x at *;(have p0:(0:Int)≤(D:Int):=by omega);(have p1:(D:Int)<(vl.length:Int):=by omega);have q3:IntKind.i64.wrap (48+(x:Int))=48+(x:Int):=IntWalk.i64_in _ (by omega);have q4:IntKind.u8.wrap (48+(x:Int))=48+(x:Int):=IntWalk.u8_in _ (by omega);have q5:IntKind.i64.wrap ((D:Int)-1)=(D:Int)-1:=IntWalk.i64_in _ (by omega);have HU:=hid (show (48+(x:Int))=((UInt8.ofNat (48+x)).toNat:Int) by rw [UInt8.toNat_ofNat'];omega);have S:=hid (show ((vl.drop (D+1)).reverse.map fun d=>UInt8.ofNat (48+d)).length=vl.length-(D+1) by rw [List.length_map,List.length_reverse,List.length_drop]);have HE:=hid (show ((vl.drop (D+1)).reverse.map fun d=>UInt8.ofNat (48+d))++[UInt8.ofNat (48+x)]=(vl.drop D).reverse.map fun d=>UInt8.ofNat (48+d) by rw [h8.out,List.reverse_cons,List.map_append];rfl);clear hg;generalize hLL:((vl.drop (D+1)).reverse.map fun d=>UInt8.ofNat (48+d))=LL at *;go_wp2_with (at_builtin;refine fU rfl (.tmp 90) (.tmp 97) rfl wr.heap.size _ _ LL (UInt8.ofNat (48+x)) _ (by rw [←S.out];rfl) _ rfl rfl HU.out Q.out (by omega) (by rw [S.out];omega) ?_;intro g7 c7 w7 hO7 o);have hu:eR (w.heap.size+1) w7 (.slice (some ⟨g,0,none⟩) vl.length c6) vl:=lQ gl.out fun q hq=>o.block q (World.ownsRow.lt r.out q hq).2;go_roundg D
         case measure=>omega
         case rel=>exact ⟨D,by omega,Nat.le_refl _,rfl,by rw [←HE.out];exact hO7,hu,gj.trans o⟩
        | zero=>
         rw [show ((0:Nat):Int)-1 = -1 by omega];have S:=hid (show ((vl.drop 0).reverse.map fun d=>UInt8.ofNat (48+d)).length=vl.length by rw [List.length_map,List.length_reverse,List.length_drop];omega);have g9:=hid (ah hB gj);by_cases U:vl=[]
         ·subst U;have gm:=hid (show ⟨#[48]⟩=t from HN.out);have J:=Q.out;clear HN S;go_wp2_with (at_builtin;refine fU rfl (.tmp 102) (.tmp 103) rfl wr.heap.size _ _ [] 48 _ rfl _ rfl rfl rfl J (by omega) (by simp) ?_;intro g7 c7 w7 hO7 o;have gu:=uu w7 g7 c7 (World.ownsRow.cellAt hO7 0 (by decide)));go_ret2;rw [←gm.out];exact ⟨rfl,g9.out.trans (o.mono (by have:=hB.size;omega))⟩
         ·have gm:=hid (show ⟨(vl.reverse.map fun d=>UInt8.ofNat (48+d)).toArray⟩=t by have:=HN.out;rw [d9,if_neg U] at this;exact this);rw [Nat.sub_zero] at Q ⊢;have gq:0<vl.length:=Nat.pos_of_ne_zero fun h=>U (List.eq_nil_of_length_eq_zero h);(have jq:((vl.length:Int)==0)=false:=by rw [beq_eq_false_iff_ne];omega);have h6:=hid (show ol wr.heap.size wx (.slice jd vl.length g3) (vl.reverse.map fun d=>UInt8.ofNat (48+d)) from Q.out);(have N:(vl.reverse.map fun d=>UInt8.ofNat (48+d)).length=vl.length:=by rw [List.length_map,List.length_reverse]);have J:=h6.out;unfold ol at J;rw [N] at J;obtain ⟨g7,c7,hv,hr,ho⟩:=World.ownsRow.form J gq;injection hv with e1 e2 e3;subst e1 e3;clear e2;have gu:=run_convert_bytes_back (P:=Tryz.prog) wx 22 9 5 ⟨g7,0,none⟩ g3 (vl.reverse.map fun d=>UInt8.ofNat (48+d)) Tryz.underlying22 Tryz.underlying5 Tryz.underlying9 (fun j hj=>by rw [fb,Nat.zero_add,World.ownsRow.cellAt J j (by omega),List.getElem?_map,List.getElem?_eq_getElem hj];rfl);rw [N] at gu;generalize (⟨(vl.reverse.map fun d=>UInt8.ofNat (48+d)).toArray⟩:ByteArray)=SS at *;clear N J HN S Q U;(go_wp2_with fail);go_ret2;rw [←gm.out];exact ⟨rfl,g9.out⟩)
theorem ov {B:Nat} {w wk wl:World} {b:Nat} (h:Below B w wk) (D:wk.grownBy wl (some b)) (hb:B≤b) (I:B≤wk.heap.size):Below B w wl:=
 h.trans ⟨D.os,D.tape,D.output,D.size,fun k hk=>D.block k (by omega) (fun e=>by injection e with e;omega)⟩
def D9:DataW Unit:=oq (.map []) o5
theorem c8 (w:World):Calls Tryz.prog 285 #[] w fun e w'=>∃ b,e=.returned (.map (some b))∧w'.ownsMap Tryz.prog 5 (plainElem Tryz.prog 5) b 9 D9∧w.heap.size≤b∧Below w.heap.size w w':=by have I := @run_makeMap Tryz.prog;have D:=World.ownsMap_made (H:=Unit) w Tryz.prog 5 (plainElem Tryz.prog 5);have K:Below w.heap.size w (w.alloc (.map #[] 0)):=(Below.refl _ _).alloc (Nat.le_refl _) _;(go_enter Tryz.func285,Tryz.ntmps285);go_wp2_with (refine fX _ rfl (.tmp 1) _ _ rfl (by decide) (by decide) w.heap.size _ _ rfl (by assumption) (by decide) ?_;intro M hown1 hg1;have J:=ov (w:=w) (by assumption) hg1 (Nat.le_refl _) (Below.size (by assumption));clear hg1);go_ret;exact ⟨_,rfl,by assumption,Nat.le_refl _,by assumption⟩
theorem ue (c:Nat):D9.atKey (.int .u8 (c:Int)) (.lit (.int .u8 0))=.lit (.int .u8 (((bm c).getD 0:Nat):Int))∧Maps.has D9 (.int .u8 (c:Int))=(bm c).isSome:=by
 by_cases U:c=97
 ·subst U;exact ⟨rfl,rfl⟩
 by_cases S:c=98
 ·subst S;exact ⟨rfl,rfl⟩
 by_cases Q:c=102
 ·subst Q;exact ⟨rfl,rfl⟩
 by_cases O:c=110
 ·subst O;exact ⟨rfl,rfl⟩
 by_cases N:c=114
 ·subst N;exact ⟨rfl,rfl⟩
 by_cases M:c=116
 ·subst M;exact ⟨rfl,rfl⟩
 by_cases K:c=118
 ·subst K;exact ⟨rfl,rfl⟩
 by_cases J:c=92
 ·subst J;exact ⟨rfl,rfl⟩
 by_cases I:c=34
 ·subst I;exact ⟨rfl,rfl⟩
 (have j:bm c=none:=by unfold bm;simp only [U,S,Q,O,N,M,K,J,I,if_false]);rw [j];have D:∀ k:Int,(c:Int)≠k→(Lit.int .u8 (c:Int))≠.int .u8 k:=fun k h e=>h (by injection e);unfold D9 o5;simp only [oq];constructor
 ·(repeat rw [Maps.atKey_put_other (D _ (by omega))]);rfl
 ·(repeat rw [Maps.has_put_other (D _ (by omega))]);rfl
theorem eD (b:Nat) (w:World) (I:w.ownsMap Tryz.prog 5 (plainElem Tryz.prog 5) b 9 D9) (c:Nat) (Q:c<256) :
  (Instr.lookup 292 (.map (some b)) (.int .u8 (c:Int)) true).run Tryz.prog w=.ok (.tuple #[.int .u8 (((bm c).getD 0:Nat):Int),.bool (bm c).isSome]) w:=by (have J:(Lit.int .u8 (c:Int)).wf=true:=by simp [Lit.wf,IntKind.min,IntKind.max,IntKind.signed,IntKind.bits];omega);have O:(zeroValue 5).run Tryz.prog w=.ok (.int .u8 0) w:=Tryz.zeroValue5 w;obtain ⟨v,ps,D,N⟩:=I.look_ok (Maps.int_keyed Tryz.underlying5) Tryz.underlying292 O (plainElem_int (H:=Unit) Tryz.underlying5 (by decide)) (Maps.keyOf_int_mk Tryz.underlying5 J);rw [(ue c).1] at N;rw [(ue c).2] at D;generalize (bm c).getD 0=vv at *;generalize (bm c).isSome=sb at *;obtain ⟨c',rfl,K,_⟩:=plainElem_int_inv Tryz.underlying5 N;have M:=congrArg Prod.fst K;simp only at M;simp only [DataW.lit.injEq,Lit.int.injEq,true_and] at M;subst M;exact D
theorem iV (radix:Nat):∀ (l:List UInt8) (v x:Nat),bJ radix l v=some x→x<(v+1) * radix ^ l.length
 | [],v,x,h=>by rw [bJ] at h;injection h with h;simp;omega
 | c::r,v,x,h=>by
  rw [bJ] at h;cases hd:bC c.toNat with
  | none=>rw [hd] at h;cases h
  | some d=>
   rw [hd] at h;simp only at h;split at h
   ·rename_i D;have:=iV radix r _ _ h;refine Nat.lt_of_lt_of_le this ?_;rw [List.length_cons,Nat.pow_succ,Nat.mul_comm (radix ^ r.length) radix,←Nat.mul_assoc];refine Nat.mul_le_mul_right _ ?_;rw [Nat.add_mul,Nat.one_mul];omega
   ·cases h
theorem eb {l:List UInt8} {n radix x m:Nat} (h:aC l n radix=some x) (D:radix ^ n≤m):x<m:=by
 unfold aC at h;split at h
 ·have:=iV radix _ _ _ h;rw [List.length_take,Nat.min_eq_left (by assumption)] at this;omega
 ·cases h
theorem ow {c x:Nat} (h:bm c=some x):x≤255:=by unfold bm at h;(repeat' split at h);all_goals first | (injection h with h;omega) | cases h
theorem sp (w7:World) (g7 c7:Nat) (b:Int) (D:0≤b) (hb:b≤255) (h:w7.cell? ⟨g7,0,none⟩=some (.int .u8 b)):(convert 22 9 (.slice (some ⟨g7,0,none⟩) 1 c7)).run Tryz.prog w7=.ok (.string ⟨#[UInt8.ofNat b.toNat]⟩) w7:=by refine run_convert_bytes_back (P:=Tryz.prog) w7 22 9 5 ⟨g7,0,none⟩ c7 [UInt8.ofNat b.toNat] Tryz.underlying22 Tryz.underlying5 Tryz.underlying9 (fun j hj=>?_);(have:j=0:=by simp at hj;omega);subst this;rw [show w7.cell? (Addr.add ⟨g7,0,none⟩ 0)=some (.int .u8 b) from h];simp;rw [Int.emod_eq_of_lt (by omega) (by omega)];omega
theorem cN (r:Int):Lib.validRune r=Utf8.valid r:=by unfold Lib.validRune Utf8.valid;rw [Bool.eq_iff_iff];simp;omega
def ft (c:UInt8) (r:List UInt8):Option (List UInt8 × Nat):=
 if c.toNat=120 then (aC r 2 16).map fun v=>([UInt8.ofNat v],3)
 else if c.toNat=117 then (aC r 4 16).bind fun v=>if Utf8.valid (v:Int)=true then some ((Utf8.encode (v:Int)).data.toList,5) else none
 else if c.toNat=85 then (aC r 8 16).bind fun v=>if Utf8.valid (v:Int)=true then some ((Utf8.encode (v:Int)).data.toList,9) else none
 else (aC (c::r) 3 8).bind fun v=>if v≤255 then some ([UInt8.ofNat v],3) else none
theorem iW (c:UInt8) (r:List UInt8) (h:bm c.toNat=none):dc (c::r)=ft c r:=by rw [dc,h];rfl
def sq (w:World) (r:Option (List UInt8 × Nat)) (e:Ending) (w':World):Prop:=
 Below w.heap.size w w'∧match r with
 | some p=>e=.returned (.tuple #[.string ⟨p.1.toArray⟩,.int .i64 (p.2:Int)])
 | none=>e=aw
theorem sr (s:ByteArray) (hs:s.size≤65536) (w:World):Calls Tryz.prog 239 #[.string s] w (sq w (dc s.data.toList)):=by
 obtain ⟨R,hR⟩:∃ R,R=dc s.data.toList:=⟨_,rfl⟩;rw [←hR];have HR:=hid hR;clear hR;have gk:s.data.toList.length=s.size:=rfl;by_cases hn:s.size=0
 ·(have gn:s=⟨#[]⟩:=by have hl:s.data.toList=[]:=List.eq_nil_of_length_eq_zero (by omega);cases s;simp at hl;subst hl;rfl);subst gn;have HN:=hid (show R=none from HR.out);clear HR gk hn;(go_enter Tryz.func239,Tryz.ntmps239);(go_wp2_with fail);refine (aN _).mono ?_;rintro e w2 ⟨rfl,rfl⟩;unfold aw;refine ⟨rfl,?_⟩;rw [HN.out];exact ⟨Below.refl _ _,rfl⟩
 (have gt:s.toList.isEmpty=false:=by rw [ai];exact decide_eq_false (by rintro rfl;exact hn rfl));obtain ⟨c,rr,gi,gm,gh⟩:=d6 s 0 (by omega);have gs:∀ W,(Instr.index 9 (.string s) (.int .i64 0)).run Tryz.prog W=.ok (.int .u8 (af s 0:Int)) W:=fun W=>cc s 0 (by omega) W;have gb:=eJ s 0;have gq:=hid (show s.data.toList=c::rr by rw [←gi,List.drop_zero]);have HC:=hid (show R=dc (c::rr) by rw [HR.out,←gi,List.drop_zero]);have q:=hid gm;have j:=hid (show (s.extract 1 s.size).data.toList=rr by rw [Lib.extract_data,←gh,List.take_of_length_le (by rw [gh,List.length_drop];omega)]);clear HR gi gm gh gk;generalize af s 0=bb at *;(go_enter Tryz.func239,Tryz.ntmps239);(go_wp2_with fail);refine (a6 _).mono ?_;rintro e w2 ⟨rfl,rfl⟩;cases ga:bm bb with
 | some x=>
  have HS:=hid ga;clear ga;(go_wp2_with fail);go_region_law (first
   | (go_simp;(go_at_call 285);refine (c8 _).mono ?_;rintro e w3 ⟨b,rfl,D,k,I⟩;have K:=(Below.refl w.heap.size w).drew.trans I;have S:=K.size;have J:=eD b w3 D bb gb;rw [HS.out] at J;simp only [Option.getD_some,Option.isSome_some] at J;clear D I k))
  all_goals have U:=hid (show R=some ([UInt8.ofNat x],1) by rw [HC.out,dc,q.out,HS.out]);(have y:(0:Int)≤(x:Int):=by omega);(have u:(x:Int)≤255:=by have:=ow HS.out;omega);have gl:=fun W g7 c7 h=>sp W g7 c7 (x:Int) y u h;clear HC j J;(go_wp2_with fail);go_ret2;rw [U.out];exact ⟨K.alloc S _,rfl⟩
 | none=>
  have HS:=hid ga;have HP:=hid (show R=ft c rr by rw [HC.out,iW _ _ (by rw [q.out];exact ga)]);have o:=hid gq.out;(have gr:decide ((1:Int)≤(s.size:Int))=true:=by rw [decide_eq_true_iff];omega);clear ga HC;by_cases gd:bb=120
  ·have Q:=hid (show R=(aC rr 2 16).map fun v=>([UInt8.ofNat v],3) by rw [HP.out,ft,q.out,gd];rfl);(have c1:((bb:Int)==120)=true:=by rw [beq_iff_eq];omega);clear HP o gd;(go_wp2_with fail);go_region_law (first
    | (go_simp;(go_at_call 285);refine (c8 _).mono ?_;rintro e w3 ⟨b,rfl,D,k,I⟩;have K:=(Below.refl w.heap.size w).drew.trans I;have S:=K.size;have J:=eD b w3 D bb gb;rw [HS.out] at J;simp only [Option.getD_none,Option.isSome_none] at J;clear D I k))
   all_goals
    clear J;(go_wp2_with fail);refine (d8 _ 2 16 (by decide) (by decide) _).mono ?_;rw [j.out];cases hd:aC rr 2 16 with
    | none=>have U:=hid (show R=none by rw [Q.out,hd];rfl);rintro e w4 ⟨O,rfl⟩;unfold aw;refine ⟨rfl,?_⟩;rw [U.out];exact ⟨K.trans (O.mono S),rfl⟩
    | some v=>have r:=eb (m:=256) hd (by decide);rw [hd] at Q;clear hd;rintro e w4 ⟨O,rfl⟩;have M:=K.trans (O.mono S);have z:=M.size;have U:=hid (show R=some ([UInt8.ofNat v],3) from Q.out);have q4:IntKind.u8.wrap (v:Int)=(v:Int):=IntWalk.u8_in _ (by omega);(have y:(0:Int)≤(v:Int):=by omega);(have u:(v:Int)≤255:=by omega);have gl:=fun W g7 c7 h=>sp W g7 c7 (v:Int) y u h;clear j Q r;(go_wp2_with fail);go_ret2;rw [U.out];exact ⟨M.alloc z _,rfl⟩
  by_cases ge:bb=117
  ·have Q:=hid (show R=(aC rr 4 16).bind fun v=>if Utf8.valid (v:Int)=true then some ((Utf8.encode (v:Int)).data.toList,5) else none by rw [HP.out,ft,q.out,ge];rfl);(have c1:((bb:Int)==120)=false:=by rw [beq_eq_false_iff_ne];omega);(have c2:((bb:Int)==117)=true:=by rw [beq_iff_eq];omega);(have c3:((bb:Int)==85)=false:=by rw [beq_eq_false_iff_ne];omega);clear HP o ge;(go_wp2_with fail);go_region_law (first
    | (go_simp;(go_at_call 285);refine (c8 _).mono ?_;rintro e w3 ⟨b,rfl,D,k,I⟩;have K:=(Below.refl w.heap.size w).drew.trans I;have S:=K.size;have J:=eD b w3 D bb gb;rw [HS.out] at J;simp only [Option.getD_none,Option.isSome_none] at J;clear D I k))
   all_goals
    clear J;(go_wp2_with fail);refine (d8 _ 4 16 (by decide) (by decide) _).mono ?_;rw [j.out];cases hd:aC rr 4 16 with
    | none=>have U:=hid (show R=none by rw [Q.out,hd];rfl);rintro e w4 ⟨O,rfl⟩;unfold aw;refine ⟨rfl,?_⟩;rw [U.out];exact ⟨K.trans (O.mono S),rfl⟩
    | some v=>
     have r:=eb (m:=65536) hd (by decide);rw [hd] at Q;clear hd;rintro e w4 ⟨O,rfl⟩;have M:=K.trans (O.mono S);have z:=M.size;by_cases gp:v≤1114111
     ·(have e0:decide ((v:Int)≤1114111)=true:=by rw [decide_eq_true_iff];omega);have q4:IntKind.i32.wrap (v:Int)=(v:Int):=IntWalk.i32_in _ (by omega);cases N:Utf8.valid (v:Int) with
      | true=>have U:=hid (show R=some ((Utf8.encode (v:Int)).data.toList,5) by rw [Q.out,Option.bind_some,if_pos N]);clear j Q r;(go_wp2_with fail);refine (cx (v:Int) _).mono ?_;rw [cN,N];rintro e w5 ⟨rfl,rfl⟩;(go_wp2_with fail);refine (a6 _).mono ?_;rintro e w6 ⟨rfl,rfl⟩;(go_wp2_with fail);go_ret2;rw [U.out];exact ⟨M,by generalize Utf8.encode (v:Int)=en;cases en;rfl⟩
      | false=>have U:=hid (show R=none by rw [Q.out,Option.bind_some,if_neg (by rw [N];decide)]);clear j Q r;(go_wp2_with fail);refine (cx (v:Int) _).mono ?_;rw [cN,N];rintro e w5 ⟨rfl,rfl⟩;(go_wp2_with fail);refine (aN _).mono ?_;rintro e w6 ⟨rfl,rfl⟩;unfold aw;refine ⟨rfl,?_⟩;rw [U.out];exact ⟨M,rfl⟩
     ·(have e0:decide ((v:Int)≤1114111)=false:=by rw [decide_eq_false_iff_not];omega);(have N:Utf8.valid (v:Int)=false:=by unfold Utf8.valid;simp;omega);have U:=hid (show R=none by rw [Q.out,Option.bind_some,if_neg (by rw [N];decide)]);clear j Q r N;(go_wp2_with fail);refine (aN _).mono ?_;rintro e w6 ⟨rfl,rfl⟩;unfold aw;refine ⟨rfl,?_⟩;rw [U.out];exact ⟨M,rfl⟩
  by_cases gj:bb=85
  ·have Q:=hid (show R=(aC rr 8 16).bind fun v=>if Utf8.valid (v:Int)=true then some ((Utf8.encode (v:Int)).data.toList,9) else none by rw [HP.out,ft,q.out,gj];rfl);(have c1:((bb:Int)==120)=false:=by rw [beq_eq_false_iff_ne];omega);(have c2:((bb:Int)==117)=false:=by rw [beq_eq_false_iff_ne];omega);(have c3:((bb:Int)==85)=true:=by rw [beq_iff_eq];omega);clear HP o gj;(go_wp2_with fail);go_region_law (first
    | (go_simp;(go_at_call 285);refine (c8 _).mono ?_;rintro e w3 ⟨b,rfl,D,k,I⟩;have K:=(Below.refl w.heap.size w).drew.trans I;have S:=K.size;have J:=eD b w3 D bb gb;rw [HS.out] at J;simp only [Option.getD_none,Option.isSome_none] at J;clear D I k))
   all_goals
    clear J;(go_wp2_with fail);refine (d8 _ 8 16 (by decide) (by decide) _).mono ?_;rw [j.out];cases hd:aC rr 8 16 with
    | none=>have U:=hid (show R=none by rw [Q.out,hd];rfl);rintro e w4 ⟨O,rfl⟩;unfold aw;refine ⟨rfl,?_⟩;rw [U.out];exact ⟨K.trans (O.mono S),rfl⟩
    | some v=>
     have r:=eb (m:=4294967296) hd (by decide);rw [hd] at Q;clear hd;rintro e w4 ⟨O,rfl⟩;have M:=K.trans (O.mono S);have z:=M.size;by_cases gp:v≤1114111
     ·(have e0:decide ((v:Int)≤1114111)=true:=by rw [decide_eq_true_iff];omega);have q4:IntKind.i32.wrap (v:Int)=(v:Int):=IntWalk.i32_in _ (by omega);cases N:Utf8.valid (v:Int) with
      | true=>have U:=hid (show R=some ((Utf8.encode (v:Int)).data.toList,9) by rw [Q.out,Option.bind_some,if_pos N]);clear j Q r;(go_wp2_with fail);refine (cx (v:Int) _).mono ?_;rw [cN,N];rintro e w5 ⟨rfl,rfl⟩;(go_wp2_with fail);refine (a6 _).mono ?_;rintro e w6 ⟨rfl,rfl⟩;(go_wp2_with fail);go_ret2;rw [U.out];exact ⟨M,by generalize Utf8.encode (v:Int)=en;cases en;rfl⟩
      | false=>have U:=hid (show R=none by rw [Q.out,Option.bind_some,if_neg (by rw [N];decide)]);clear j Q r;(go_wp2_with fail);refine (cx (v:Int) _).mono ?_;rw [cN,N];rintro e w5 ⟨rfl,rfl⟩;(go_wp2_with fail);refine (aN _).mono ?_;rintro e w6 ⟨rfl,rfl⟩;unfold aw;refine ⟨rfl,?_⟩;rw [U.out];exact ⟨M,rfl⟩
     ·(have e0:decide ((v:Int)≤1114111)=false:=by rw [decide_eq_false_iff_not];omega);(have N:Utf8.valid (v:Int)=false:=by unfold Utf8.valid;simp;omega);have U:=hid (show R=none by rw [Q.out,Option.bind_some,if_neg (by rw [N];decide)]);clear j Q r N;(go_wp2_with fail);refine (aN _).mono ?_;rintro e w6 ⟨rfl,rfl⟩;unfold aw;refine ⟨rfl,?_⟩;rw [U.out];exact ⟨M,rfl⟩
  have Q:=hid (show R=(aC (c::rr) 3 8).bind fun v=>if v≤255 then some ([UInt8.ofNat v],3) else none by rw [HP.out,ft,q.out,if_neg gd,if_neg ge,if_neg gj]);(have c1:((bb:Int)==120)=false:=by rw [beq_eq_false_iff_ne];omega);(have c2:((bb:Int)==117)=false:=by rw [beq_eq_false_iff_ne];omega);(have c3:((bb:Int)==85)=false:=by rw [beq_eq_false_iff_ne];omega);clear HP;(go_wp2_with fail);go_region_law (first
   | (go_simp;(go_at_call 285);refine (c8 _).mono ?_;rintro e w3 ⟨b,rfl,D,k,I⟩;have K:=(Below.refl w.heap.size w).drew.trans I;have S:=K.size;have J:=eD b w3 D bb gb;rw [HS.out] at J;simp only [Option.getD_none,Option.isSome_none] at J;clear D I k))
  all_goals
   clear J;(go_wp2_with fail);refine (d8 _ 3 8 (by decide) (by decide) _).mono ?_;rw [o.out];cases hd:aC (c::rr) 3 8 with
   | none=>have U:=hid (show R=none by rw [Q.out,hd];rfl);rintro e w4 ⟨O,rfl⟩;unfold aw;refine ⟨rfl,?_⟩;rw [U.out];exact ⟨K.trans (O.mono S),rfl⟩
   | some v=>
    have r:=eb (m:=512) hd (by decide);rw [hd] at Q;clear hd;rintro e w4 ⟨O,rfl⟩;have M:=K.trans (O.mono S);have z:=M.size;by_cases gg:v≤255
    ·(have e0:decide ((v:Int)≤255)=true:=by rw [decide_eq_true_iff];omega);have U:=hid (show R=some ([UInt8.ofNat v],3) by rw [Q.out,Option.bind_some,if_pos gg]);have q4:IntKind.u8.wrap (v:Int)=(v:Int):=IntWalk.u8_in _ (by omega);(have y:(0:Int)≤(v:Int):=by omega);(have u:(v:Int)≤255:=by omega);have gl:=fun W g7 c7 h=>sp W g7 c7 (v:Int) y u h;clear j Q r o;(go_wp2_with fail);refine (a6 _).mono ?_;rintro e w5 ⟨rfl,rfl⟩;(go_wp2_with fail);go_ret2;rw [U.out];exact ⟨M.alloc z _,rfl⟩
    ·(have e0:decide ((v:Int)≤255)=false:=by rw [decide_eq_false_iff_not];omega);have U:=hid (show R=none by rw [Q.out,Option.bind_some,if_neg gg]);clear j Q r o;(go_wp2_with fail);refine (aN _).mono ?_;rintro e w5 ⟨rfl,rfl⟩;unfold aw;refine ⟨rfl,?_⟩;rw [U.out];exact ⟨M,rfl⟩
theorem ox (v:Int):(Utf8.encode v).data.toList.length≤4:=by unfold Utf8.encode;dsimp only;(repeat' split);all_goals exact Nat.le_of_ble_eq_true rfl
theorem dn {l:List UInt8} {n radix x:Nat} (h:aC l n radix=some x):n≤l.length:=by
 unfold aC at h;split at h
 ·assumption
 ·cases h
theorem pQ {l:List UInt8} {p:List UInt8 × Nat} (h:dc l=some p):p.1.length≤4∧1≤p.2∧p.2≤l.length:=by
 (have key:∀ (a:List UInt8) (n m:Nat),some (a,n)=some p→a.length≤4→1≤n→n≤m→p.1.length≤4∧1≤p.2∧p.2≤m:=by intro a n m h M K J;rw [←Option.some.inj h];exact ⟨M,K,J⟩);have O:=ox;cases l with
 | nil=>cases h
 | cons c r=>
  rw [List.length_cons];cases N:bm c.toNat with
  | some v=>rw [dc,N] at h;exact key _ _ _ h (Nat.le_of_ble_eq_true rfl) (Nat.le_refl _) (Nat.succ_le_succ (Nat.zero_le _))
  | none=>
   rw [iW c r N,ft] at h;clear N;generalize c.toNat=n at h;by_cases M:n=120
   ·rw [if_pos M] at h;obtain ⟨v,hd,h⟩:=Option.map_eq_some_iff.mp h;have I:=dn hd;exact key _ _ _ (congrArg some h) (Nat.le_of_ble_eq_true rfl) (by omega) (by omega)
   ·rw [if_neg M] at h;by_cases K:n=117
    ·rw [if_pos K] at h;obtain ⟨v,hd,h⟩:=Option.bind_eq_some_iff.mp h;have I:=dn hd;by_cases D:Utf8.valid (v:Int)=true
     ·rw [if_pos D] at h;exact key _ _ _ h (O _) (by omega) (by omega)
     ·rw [if_neg D] at h;cases h
    ·rw [if_neg K] at h;by_cases J:n=85
     ·rw [if_pos J] at h;obtain ⟨v,hd,h⟩:=Option.bind_eq_some_iff.mp h;have I:=dn hd;by_cases D:Utf8.valid (v:Int)=true
      ·rw [if_pos D] at h;exact key _ _ _ h (O _) (by omega) (by omega)
      ·rw [if_neg D] at h;cases h
     ·rw [if_neg J] at h;obtain ⟨v,hd,h⟩:=Option.bind_eq_some_iff.mp h;have I:=dn hd;rw [List.length_cons] at I;by_cases D:v≤255
      ·rw [if_pos D] at h;exact key _ _ _ h (Nat.le_of_ble_eq_true rfl) (by omega) (by omega)
      ·rw [if_neg D] at h;cases h
theorem cj:∀ (g g':Nat) (l:List UInt8),l.length<g→l.length<g'→a8 g l=a8 g' l
 | 0,_,_,h,_=>absurd h (Nat.not_lt_zero _)
 | _+1,0,_,_,h=>absurd h (Nat.not_lt_zero _)
 | g+1,g'+1,[],_,_=>by rw [a8,a8]
 | g+1,g'+1,c::r,h,h'=>by
  rw [a8,a8];simp only [List.length_cons] at h h';split
  ·cases D:dc r with
   | none=>rfl
   | some p=>simp only [Option.bind_some];rw [cj g g' (r.drop p.2) (by rw [List.length_drop];omega) (by rw [List.length_drop];omega)]
  ·split
   ·rfl
   ·rw [cj g g' r (by omega) (by omega)]
theorem tu.below {B b:Nat} {bs:List Value} {w w':World} (h:tu B b bs w) (hb:Below w.heap.size w w'):tu B b bs w':=by (have key:∀ p,Lib.BuilderAt 274 5 B b p bs w→Lib.BuilderAt 274 5 B b p bs w':=by rintro p ⟨K,v,J,D,I⟩;exact ⟨K,v,by rw [hb.block b (Lib.BuilderAt.lt ⟨K,v,J,D,I⟩)];exact J,lQ D (fun g hg=>hb.block g (World.ownsRow.lt D g hg).2),I⟩);exact h.elim (fun h=>.inl (key _ h)) (fun h=>.inr (key _ h))
def tN (w:World) (r:Option (List UInt8)) (e:Ending) (w':World):Prop:=
 Below w.heap.size w w'∧match r with
 | some l=>e=.returned (.string ⟨l.toArray⟩)
 | none=>e=aw
def aS (bs:List UInt8) (l:List UInt8):Option (List UInt8):=(a8 (l.length+1) l).map fun x=>bs++x
theorem m7 (bs:List UInt8):aS bs []=some bs:=by show (some []).map _=_;simp
theorem mj (bs:List UInt8) (c:UInt8) (r:List UInt8) (D:c.toNat=92):aS bs (c::r)=(dc r).bind fun p=>aS (bs++p.1) (r.drop p.2):=by
 unfold aS;rw [a8,if_pos D];cases I:dc r with
 | none=>rfl
 | some p=>simp only [Option.bind_some,Option.map_map];rw [cj ((c::r).length) ((r.drop p.2).length+1) (r.drop p.2) (by simp only [List.length_cons,List.length_drop];omega) (by omega)];congr 1;funext x;simp
theorem m8 (bs:List UInt8) (c:UInt8) (r:List UInt8) (D:¬ c.toNat=92) (h:c.toNat=34∨c.toNat=10):aS bs (c::r)=none:=by unfold aS;rw [a8,if_neg D,if_pos h];rfl
theorem ml (bs:List UInt8) (c:UInt8) (r:List UInt8) (D:¬ c.toNat=92) (h:¬ (c.toNat=34∨c.toNat=10)):aS bs (c::r)=aS (bs++[c]) r:=by unfold aS;rw [a8,if_neg D,if_neg h,Option.map_map];rw [cj ((c::r).length) (r.length+1) r (by simp only [List.length_cons];omega) (by omega)];congr 1;funext x;simp
theorem fu (s:ByteArray) (k:Nat):(s.extract k s.size).data.toList=s.data.toList.drop k:=by rw [Lib.extract_data];have:s.data.toList.length=s.size:=rfl;rw [List.take_of_length_le (by rw [List.length_drop];omega)]
theorem lu (s:ByteArray) (hs:s.size≤65536) (w:World):Calls Tryz.prog 192 #[.string s] w (tN w (aS [] s.data.toList)):=by
 obtain ⟨R,hR⟩:∃ R,R=aS [] s.data.toList:=⟨_,rfl⟩;rw [←hR];have HR:=hid hR.symm;clear hR;(go_enter Tryz.func192,Tryz.ntmps192);(go_wp2_with fail);have J:=Lib.fresh_isBuilder 274 5 w;have y:Below w.heap.size w (w.alloc (.cells #[.pointer none,.slice none 0 0] 274)):=(Below.refl _ w).alloc (Nat.le_refl _) _;generalize w.alloc (.cells #[.pointer none,.slice none 0 0] 274)=w1 at *;go_loopg [0,4,5,6,7,8] s.size (fun g u0 _ _ _ _ _ wr=>∃ (t:ByteArray) (bs:List UInt8),u0=.string t∧t.size≤g∧t.size≤s.size∧bs.length+4 * t.size≤4 * s.size∧tu w.heap.size w.heap.size (Lib.byteCells bs) wr∧Below w.heap.size w wr∧aS bs t.data.toList=R)
 case atStart=>exact ⟨s,[],rfl,Nat.le_refl _,Nat.le_refl _,by simp,J,y,HR.out⟩
 case round=>
  clear J y HR;obtain ⟨t,bs,rfl,hg,gl,gp,J,k,hq⟩:=hrel;have S:=hid hq;have O:=k.size;clear hq;by_cases U:t=⟨#[]⟩
  ·subst U;have Q:=hid (show R=some bs from S.out.symm.trans (m7 bs));clear S;(go_wp2_with fail);refine (mN _ _ bs _ J O).mono ?_;rintro e w4 ⟨rfl,D⟩;(go_wp2_with fail);go_ret;rw [Q.out];exact ⟨k.trans D,rfl⟩
  ·(have gn:t.toList.isEmpty=false:=by rw [ai];exact decide_eq_false U);(have hn:0<t.size:=by refine Nat.pos_of_ne_zero fun h0=>U ?_;have hl:t.data.toList=[]:=List.eq_nil_of_length_eq_zero (by have:t.data.toList.length=t.size:=rfl;omega);cases t;simp at hl;subst hl;rfl);obtain ⟨c,rr,q,r,gb⟩:=d6 t 0 hn;have yk:∀ W,(Instr.index 9 (.string t) (.int .i64 0)).run Tryz.prog W=.ok (.int .u8 (af t 0:Int)) W:=fun W=>cc t 0 hn W;have gq:=eJ t 0;have I:=hid (show t.data.toList=c::rr by rw [←q,List.drop_zero]);have gh:=hid (show (t.extract 1 t.size).data.toList=rr by rw [fu,I.out];rfl);have M:=hid r;have gg:=hid (show t.size=rr.length+1 by have h1:t.data.toList.length=t.size:=rfl;rw [I.out,List.length_cons] at h1;omega);(have p1:(1:Int)≤(t.size:Int):=by omega);(have u:(t.extract 1 t.size).size≤65536:=by rw [ByteArray.size_extract];omega);(have ge:(t.extract 1 t.size).size=t.size-1:=by rw [ByteArray.size_extract];omega);clear q r gb;generalize af t 0=bb at *;by_cases K:bb=92
   ·(have c1:((bb:Int)==92)=true:=by rw [beq_iff_eq];omega);have HD:=hid (show (dc rr).bind (fun p=>aS (bs++p.1) (rr.drop p.2))=R by rw [←S.out,I.out,mj _ _ _ (by rw [M.out];exact K)]);have gi:=hid u;clear S K u ge;(go_wp2_with fail);refine (sr _ gi.out _).mono ?_;rw [gh.out];cases o:dc rr with
    | none=>have Q:=hid (show R=none by rw [←HD.out,o];rfl);rintro e w4 ⟨D,rfl⟩;unfold aw;refine ⟨rfl,?_⟩;rw [Q.out];exact ⟨k.trans (D.mono O),rfl⟩
    | some p=>
     have hl:=pQ o;have gj:=hid (show aS (bs++p.1) (rr.drop p.2)=R by rw [←HD.out,o];rfl);clear HD;rintro e w4 ⟨D,rfl⟩;have gd:=J.below D;have x:=k.trans (D.mono O);have ga:=x.size;obtain ⟨ps,n⟩:=p;simp only at hl;(have gm:n+1≤t.size:=by have:=gg.out;omega);have q5:IntKind.i64.wrap ((n:Int)+1)=(n:Int)+1:=IntWalk.i64_in _ (by omega);(have p2:(0:Int)≤(n:Int)+1:=by omega);(have p3:(n:Int)+1≤(t.size:Int):=by omega);(have gr:((n:Int)+1).toNat=n+1:=by omega);have HP:=hid o;clear o D;(go_wp2_with fail);refine (iA _ _ _ ⟨ps.toArray⟩ _ gd (by show (Lib.byteCells bs).length+ps.toArray.size≤_;simp [Lib.byteCells];omega) ga).mono ?_;rintro e w5 ⟨⟨v5,rfl⟩,h,j⟩;(go_wp2_with fail);go_roundg (t.size-(n+1))
     case measure=>omega
     case rel=>exact ⟨t.extract (n+1) t.size,bs++ps,rfl,by rw [ByteArray.size_extract];omega,by rw [ByteArray.size_extract];omega,by rw [ByteArray.size_extract,List.length_append];omega,by (have:Lib.byteCells (bs++ps)=Lib.byteCells bs++Lib.strCells ⟨ps.toArray⟩:=by simp [Lib.byteCells,Lib.strCells]);rw [this];exact h,x.trans j,by rw [fu,I.out];exact gj.out⟩
   ·(have c1:((bb:Int)==92)=false:=by rw [beq_eq_false_iff_ne];omega);by_cases N:bb=34∨bb=10
    ·have Q:=hid (show R=none by rw [←S.out,I.out,m8 _ _ _ (by rw [M.out];exact K) (by rw [M.out];exact N)]);clear S K;by_cases z:bb=34
     ·(have c2:((bb:Int) != 34)=false:=by rw [bne_eq_false_iff_eq];omega);clear z N;(go_wp2_with fail);refine (aN _).mono ?_;rintro e w6 ⟨rfl,rfl⟩;unfold aw;refine ⟨rfl,?_⟩;rw [Q.out];exact ⟨k,rfl⟩
     ·(have c2:((bb:Int) != 34)=true:=by rw [bne_iff_ne];omega);(have c3:((bb:Int) != 10)=false:=by rw [bne_eq_false_iff_eq];omega);clear z N;(go_wp2_with fail);refine (aN _).mono ?_;rintro e w6 ⟨rfl,rfl⟩;unfold aw;refine ⟨rfl,?_⟩;rw [Q.out];exact ⟨k,rfl⟩
    ·have Q:=hid (show aS (bs++[c]) rr=R by rw [←S.out,I.out,ml _ _ _ (by rw [M.out];exact K) (by rw [M.out];exact N)]);(have c2:((bb:Int) != 34)=true:=by rw [bne_iff_ne];omega);(have c3:((bb:Int) != 10)=true:=by rw [bne_iff_ne];omega);clear S K N;(go_wp2_with fail);refine (a6 _).mono ?_;rintro e w6 ⟨rfl,rfl⟩;(go_wp2_with fail);refine (li _ _ _ (bb:Int) _ J (by simp [Lib.byteCells];omega) O).mono ?_;rintro e w5 ⟨rfl,h,j⟩;(go_wp2_with fail);go_roundg (t.size-1)
     case measure=>omega
     case rel=>exact ⟨t.extract 1 t.size,bs++[c],rfl,by rw [ByteArray.size_extract];omega,by rw [ByteArray.size_extract];omega,by rw [ByteArray.size_extract,List.length_append,List.length_singleton];omega,by (have:Lib.byteCells (bs++[c])=Lib.byteCells bs++[.int .u8 (bb:Int)]:=by simp [Lib.byteCells,M.out]);rw [this];exact h,k.trans j,by rw [fu,I.out];exact Q.out⟩
theorem uw (v:Value) (w:World):(Instr.typeAssert (.iface 237 v) 20 237 true).run Tryz.prog w=.ok (.tuple #[v,.bool true]) w:=by kernel_rfl
attribute [local go_sem] uw
theorem pR (p q:Addr) (w:World) :
  CallsD Tryz.prog 190 #[.pointer (some p),.pointer (some q)] .returning w fun e u' w'=>e=.returned (.tuple #[])∧u'=.returning∧w'=w:=by
 refine callsD_of_wpS Tryz.func190 rfl fun c₀ cs D=>?_;apply wpS_seq;apply wpS_region;simp [wpOpsS,go_sem,recoverD,D,Tryz.ntmps190,Exit.thenS];apply wpS_seq;apply wpS_region;simp [wpOpsS,go_sem,Exit.thenS];refine wpS_cond (t:=false) (by simp [Act.eval,Array.replicate]) ?_;simp only [Bool.false_eq_true,if_false];refine wpS_of_wp (wp_skip ?_);cases c₀
 simp_all [bodyPostS,results,Tryz.results190]
theorem oy (s:ByteArray) (W:World):aL (W.drew.alloc (.cells (bytesRow s (grownCap W s.size 0 5)) 5 ((bytesRow s (grownCap W s.size 0 5)).size,(bytesRow s (grownCap W s.size 0 5)).size+1))) (some ⟨W.heap.size,0,none⟩) (grownCap W s.size 0 5) s:=by refine .inr ⟨W.heap.size,0,rfl,grownCap_ge W s.size 0 _,by show _<(W.heap.push _).size;simp,fun i hi=>?_⟩;rw [Nat.zero_add];(have:(W.drew.alloc (.cells (bytesRow s (grownCap W s.size 0 5)) 5 ((bytesRow s (grownCap W s.size 0 5)).size,(bytesRow s (grownCap W s.size 0 5)).size+1))).heap[W.heap.size]? = some (.cells (bytesRow s (grownCap W s.size 0 5)) 5 ((bytesRow s (grownCap W s.size 0 5)).size,(bytesRow s (grownCap W s.size 0 5)).size+1)):=by show (W.heap.push _)[W.heap.size]? = _;simp);rw [Lib.cell_of_heap this i,bytesRow_at s _ i hi];rfl
theorem aM {P:Program} {ops:Array Oper} {w:World} {Q:Act→Prop} {a:Act} {o:Oper} {rest:List Oper} (v:Value) (D:Region.wanted o (yielded ops a.tmps)=true) (I:(execOp a.eval o).run P w=.ok (.value v) w)
  (h:wpStill P ops w Q rest (a.put o.dst v)):wpStill P ops w Q (o::rest) a:=by rw [wpStill,if_pos D,Oper.still,I,Oper.stillUpon_value];exact h
theorem m9 (s:ByteArray):(s.extract 1 (s.size-1)).data.toList=s.data.toList.extract 1 (s.size-1):=by rw [Lib.extract_data]
theorem na (s x:ByteArray) (w:World) (hT:cI w) (h:fH s=some x) :
  Calls Tryz.prog 144 #[.string s] w fun e w'=>e=.returned (.tuple #[.string x,.int .i64 0])∧Below w.heap.size w w':=by
 have gr:∀ (fn:Fn) (first cap:Array Value) (w:World),(Instr.makeFunc fn first cap).run Tryz.prog w=.ok (.func fn first cap) w:=fun _ _ _ _=>rfl;have gl:Below w.heap.size w ((w.alloc (.cells #[.string ⟨#[]⟩] 9)).alloc (.cells #[.int .i64 0] 57)):=bel;have gi:ac ((w.alloc (.cells #[.string ⟨#[]⟩] 9)).alloc (.cells #[.int .i64 0] 57)) w.heap.size 9 #[.string ⟨#[]⟩]:=(ac.new w _ _).alloc _;have gg:ac ((w.alloc (.cells #[.string ⟨#[]⟩] 9)).alloc (.cells #[.int .i64 0] 57)) (w.heap.size+1) 57 #[.int .i64 0]:=ac.new_at (by simp) _ _;have HT:=hid hT;have hx:(s.size≤65536∧2≤s.size∧dp s.data.toList=true∧af s 0=34∧af s (s.size-1)=34)∧∃ l,a8 (s.size+1) (s.data.toList.extract 1 (s.size-1))=some l∧x=⟨l.toArray⟩:=by
  unfold fH at h;split at h
  ·refine ⟨‹_›,?_⟩;cases O:a8 (s.size+1) (s.data.toList.extract 1 (s.size-1)) with
   | none=>rw [O] at h;cases h
   | some l=>rw [O] at h;injection h with h;exact ⟨l,rfl,h.symm⟩
  ·cases h
 obtain ⟨⟨gb,gq,hp,h0,hl⟩,l,O,rfl⟩:=hx;have HP:=hid hp;have gm:=hid (show (s.extract 1 (s.size-1)).size≤65536 by rw [ByteArray.size_extract];omega);(have O:aS [] (s.extract 1 (s.size-1)).data.toList=some l:=by unfold aS;rw [m9,cj _ (s.size+1) _ (Nat.lt_succ_self _) (by rw [←m9];show (s.extract 1 (s.size-1)).size<_;rw [ByteArray.size_extract];omega),O];rfl);have HQ:=hid (fun W=>lu (s.extract 1 (s.size-1)) gm.out W);rw [O] at HQ;(have j:decide ((65536:Int)<(s.size:Int))=false:=by rw [decide_eq_false_iff_not];omega);(have h2:decide ((2:Int)≤(s.size:Int))=true:=by rw [decide_eq_true_iff];omega);obtain ⟨I,D⟩:∃ I,decide ((2:Int)≤(s.size:Int))=I:=⟨_,rfl⟩;have J:=hid (D.symm.trans h2);have HB:=hid D;clear D;have gp:∀ W,(Instr.index 9 (.string s) (.int .i64 0)).run Tryz.prog W=.ok (.int .u8 (af s 0:Int)) W:=fun W=>cc s 0 (by omega) W;have gn:∀ W,(Instr.index 9 (.string s) (.int .i64 ((s.size-1:Nat):Int))).run Tryz.prog W=.ok (.int .u8 (af s (s.size-1):Int)) W:=fun W=>cc s (s.size-1) (by omega) W;(have q1:IntKind.i64.wrap ((s.size:Int)-1)=((s.size-1:Nat):Int):=by rw [show (s.size:Int)-1=((s.size-1:Nat):Int) by omega];exact IntWalk.i64_in _ (by omega));(have p1:(1:Int)≤((s.size-1:Nat):Int):=by omega);(have p2:((s.size-1:Nat):Int)≤(s.size:Int):=by omega);generalize af s 0=c0 at *;generalize af s (s.size-1)=cl at *;(have c1:((c0:Int)==34)=true:=by rw [beq_iff_eq];omega);obtain ⟨bq,k⟩:∃ bq,((c0:Int)==(cl:Int))=bq:=⟨_,rfl⟩;have y:=hid (show bq=true by rw [←k,beq_iff_eq];omega);have gs:=hid gb;clear hT h O hp h0 hl;(go_enter_defers Tryz.func144,Tryz.ntmps144);(go_wp2_with fail);generalize ((w.alloc (.cells #[.string ⟨#[]⟩] 9)).alloc (.cells #[.int .i64 0] 57))=w0 at *;clear j h2;refine wp_region_still_tail 14 (by kernel_rfl) (by kernel_rfl) ?_;simp only [List.take_succ_cons,List.take_zero,List.drop_succ_cons,List.drop_zero];refine aM (.string s) rfl rfl ?_;refine aM (.int .i64 (s.size:Int)) rfl (by go_simp) ?_;refine aM (.bool I) rfl (by rw [←HB.out];rfl) ?_;refine aM (.bool I) rfl rfl ?_;simp only [Act.put,List.setIfInBounds_toArray,List.set_cons_succ,List.set_cons_zero];refine aM (.string s) (by show (some I==some true)=true;rw [J.out];rfl) rfl ?_;simp only [Act.put,List.setIfInBounds_toArray,List.set_cons_succ,List.set_cons_zero];refine aM (.int .u8 (c0:Int)) (by show (some I==some true)=true;rw [J.out];rfl) (by go_simp) ?_;simp only [Act.put,List.setIfInBounds_toArray,List.set_cons_succ,List.set_cons_zero];refine aM (.string s) (by show (some I==some true)=true;rw [J.out];rfl) rfl ?_;simp only [Act.put,List.setIfInBounds_toArray,List.set_cons_succ,List.set_cons_zero];refine aM (.string s) (by show (some I==some true)=true;rw [J.out];rfl) rfl ?_;simp only [Act.put,List.setIfInBounds_toArray,List.set_cons_succ,List.set_cons_zero];refine aM (.int .i64 (s.size:Int)) (by show (some I==some true)=true;rw [J.out];rfl) (by go_simp) ?_;simp only [Act.put,List.setIfInBounds_toArray,List.set_cons_succ,List.set_cons_zero];refine aM (.int .i64 ((s.size-1:Nat):Int)) (by show (some I==some true)=true;rw [J.out];rfl) (by go_simp) ?_;simp only [Act.put,List.setIfInBounds_toArray,List.set_cons_succ,List.set_cons_zero];refine aM (.int .u8 (cl:Int)) (by show (some I==some true)=true;rw [J.out];rfl) (by go_simp) ?_;simp only [Act.put,List.setIfInBounds_toArray,List.set_cons_succ,List.set_cons_zero];refine aM (.bool bq) (by show (some I==some true)=true;rw [J.out];rfl) (by go_simp) ?_;simp only [Act.put,List.setIfInBounds_toArray,List.set_cons_succ,List.set_cons_zero];refine aM (.bool bq) rfl (by rw [J.out];rfl) ?_;refine aM (.bool bq) rfl rfl ?_;refine wpStill_nil ?_;simp only [Act.put,List.setIfInBounds_toArray,List.set_cons_succ,List.set_cons_zero];have u:=gi.drew;have q:=gg.drew;have M:=gl.drew;have N:=M.size;have h3:=y.out;clear HB J k y;subst h3;have gd:=run_bytes_of_string (P:=Tryz.prog) w0.drew 9 22 5 s Tryz.underlying9 Tryz.underlying22 Tryz.underlying5;(go_wp2_with fail);clear gd;refine ((oy s w0.drew).wrong (HT.out.below (M.drew.alloc N _)) (by omega) HP.out).mono ?_;rintro e w2 ⟨rfl,D⟩;have r:=(u.drew.alloc _).below D (by have:=u.lt;show w.heap.size<(w0.heap.push _).size;rw [Array.size_push];exact Nat.lt_succ_of_lt this);have o:=(q.drew.alloc _).below D (by have:=q.lt;show w.heap.size+1<(w0.heap.push _).size;rw [Array.size_push];exact Nat.lt_succ_of_lt this);have U:=(M.drew.alloc N _).trans (D.mono (M.drew.alloc N _).size);have ga:=U.size;clear D;(go_wp2_with fail);refine (a6 _).mono ?_;rintro e w3 ⟨rfl,rfl⟩;(go_wp2_with fail);refine (HQ.out _).mono ?_;rintro e z ⟨K,rfl⟩;have S:=r.bl K;have Q:=o.bl K;have gk:=U.trans (K.mono ga);have x0:=aA S;have x1:=aA Q;have xf:=S.frozen 0;have yf:=Q.frozen 0;clear K r o U;(go_wp2_with fail);have gh:ac ((z.setCell ⟨w.heap.size,0,none⟩ (.string ⟨l.toArray⟩)).setCell ⟨w.heap.size+1,0,none⟩ (.int .i64 0)) w.heap.size 9 #[.string ⟨l.toArray⟩]:=(show ac (z.setCell ⟨w.heap.size,0,none⟩ (.string ⟨l.toArray⟩)) w.heap.size 9 #[.string ⟨l.toArray⟩] by simpa using (S).set_ 0 (.string ⟨l.toArray⟩)).far (p:=⟨w.heap.size+1,0,none⟩) (by show w.heap.size≠w.heap.size+1;omega) (.int .i64 0);(have ge:ac ((z.setCell ⟨w.heap.size,0,none⟩ (.string ⟨l.toArray⟩)).setCell ⟨w.heap.size+1,0,none⟩ (.int .i64 0)) (w.heap.size+1) 57 #[.int .i64 0]:=by simpa using ((Q).far (p:=⟨w.heap.size,0,none⟩) (by show w.heap.size+1≠w.heap.size;omega) (.string ⟨l.toArray⟩)).set_ 0 (.int .i64 0));have gj:=((gk).setCell (p:=⟨w.heap.size,0,none⟩) (Nat.le_refl _) (.string ⟨l.toArray⟩)).setCell (p:=⟨w.heap.size+1,0,none⟩) (Nat.le_succ _) (.int .i64 0);generalize ((z.setCell ⟨w.heap.size,0,none⟩ (.string ⟨l.toArray⟩)).setCell ⟨w.heap.size+1,0,none⟩ (.int .i64 0))=w8 at *;clear x0 x1 xf yf;refine leaves_cons (f:=190) (args:=#[.pointer (some ⟨w.heap.size,0,none⟩),.pointer (some ⟨w.heap.size+1,0,none⟩)]) (by simp) (by simp [go_sem]) ?_;refine (pR _ _ _).mono ?_;rintro e u' w9 ⟨rfl,rfl,rfl⟩;have z0:=aA gh;have z1:=aA ge;simp [Leaves,settle,results,Tryz.results144,go_sem,z0,z1];exact gj
end
end Go.Proofs.YtmmjgmcfdnkomaaGreatDoor

/-
  Parts of the proof: Ldig Ldigits. By an AI agent.
-/
import Derived.Test.YtiebcdeafofgdaaGreatDoorJ01
import Derived.Test.YtiebcdeafofgdaaGreatDoorJ22
import Derived.Test.YtiebcdeafofgdaaGreatDoorJ23
import Derived.Test.YtiebcdeafofgdaaGreatDoorJ21
import Derived.Deep.RegionLaw
import Derived.Maps.Own
import Derived.Maps.OwnSet
import Derived.Maps.Views
set_option maxRecDepth 100000
set_option maxHeartbeats 8000000
namespace Go.Proofs.YtiebcdeafofgdaaGreatDoor
section
open Go.RowKit Go.Lib Go.Proofs
attribute [local go_sem ↓] Go.wp_at_zero Go.wp_at_succ
def it (c:Nat):Int:=match da c with | some d=>(d:Int) | none => -1
theorem dg (c:Nat) (hc:c<2000000) (w:World):Calls Tryz.prog 110 #[.int .i32 (c:Int)] w fun e w'=>e=.returned (.int .i64 (it c))∧w=w':=by
 by_cases J:48≤c∧c≤57
 ·have I:=hid (show it c=(c:Int)-48 by unfold it da;rw [if_pos J];simp only;omega);(have O:decide ((48:Int)≤(c:Int))=true:=by rw [decide_eq_true_iff];omega);(have N:decide ((c:Int)≤(57:Int))=true:=by rw [decide_eq_true_iff];omega);have y:IntKind.i32.wrap ((c:Int)-48)=(c:Int)-48:=IntWalk.i32_in _ (by omega);have q:IntKind.i64.wrap ((c:Int)-48)=(c:Int)-48:=IntWalk.i64_in _ (by omega);(go_enter Tryz.func110,Tryz.ntmps110);(go_wp2_with fail);go_ret;exact ⟨(by rw [I.out];first | done | rfl),rfl⟩
 (have D:(decide ((48:Int)≤(c:Int))&&decide ((c:Int)≤(57:Int)))=false:=by rw [Bool.and_eq_false_iff,decide_eq_false_iff_not,decide_eq_false_iff_not];omega);by_cases M:97≤c∧c≤102
 ·have I:=hid (show it c=(c:Int)-97+10 by unfold it da;rw [if_neg J,if_pos M];simp only;omega);(have e0:decide ((48:Int)≤(c:Int))=true:=by rw [decide_eq_true_iff];omega);(have h:decide ((c:Int)≤(57:Int))=false:=by rw [decide_eq_false_iff_not];omega);(have O:decide ((97:Int)≤(c:Int))=true:=by rw [decide_eq_true_iff];omega);(have N:decide ((c:Int)≤(102:Int))=true:=by rw [decide_eq_true_iff];omega);have y:IntKind.i32.wrap ((c:Int)-97)=(c:Int)-97:=IntWalk.i32_in _ (by omega);have q:IntKind.i64.wrap ((c:Int)-97)=(c:Int)-97:=IntWalk.i64_in _ (by omega);have q3:IntKind.i64.wrap ((c:Int)-97+10)=(c:Int)-97+10:=IntWalk.i64_in _ (by omega);clear D;(go_enter Tryz.func110,Tryz.ntmps110);(go_wp2_with fail);go_ret;exact ⟨(by rw [I.out];first | done | rfl),rfl⟩
 by_cases U:65≤c∧c≤70
 ·have I:=hid (show it c=(c:Int)-65+10 by unfold it da;rw [if_neg J,if_neg M,if_pos U];simp only;omega);(have e0:decide ((48:Int)≤(c:Int))=true:=by rw [decide_eq_true_iff];omega);(have h:decide ((c:Int)≤(57:Int))=false:=by rw [decide_eq_false_iff_not];omega);(have O:decide ((97:Int)≤(c:Int))=false:=by rw [decide_eq_false_iff_not];omega);(have N:decide ((65:Int)≤(c:Int))=true:=by rw [decide_eq_true_iff];omega);(have z:decide ((c:Int)≤(70:Int))=true:=by rw [decide_eq_true_iff];omega);have y:IntKind.i32.wrap ((c:Int)-65)=(c:Int)-65:=IntWalk.i32_in _ (by omega);have q:IntKind.i64.wrap ((c:Int)-65)=(c:Int)-65:=IntWalk.i64_in _ (by omega);have q3:IntKind.i64.wrap ((c:Int)-65+10)=(c:Int)-65+10:=IntWalk.i64_in _ (by omega);clear D;(go_enter Tryz.func110,Tryz.ntmps110);(go_wp2_with fail);go_ret;exact ⟨(by rw [I.out];first | done | rfl),rfl⟩
 ·have I:=hid (show it c = -1 by unfold it da;rw [if_neg J,if_neg M,if_neg U]);clear D;cases O:decide ((48:Int)≤(c:Int)) <;> cases N:decide ((c:Int)≤(57:Int)) <;> cases z:decide ((97:Int)≤(c:Int)) <;> cases e4:decide ((c:Int)≤(102:Int)) <;> cases e5:decide ((65:Int)≤(c:Int)) <;> cases e6:decide ((c:Int)≤(70:Int));all_goals
   first
    | (exfalso;simp only [decide_eq_true_iff,decide_eq_false_iff_not] at O N z e4 e5 e6;omega)
    | (clear J M U;(go_enter Tryz.func110,Tryz.ntmps110);(go_wp2_with fail);go_ret;exact ⟨(by rw [I.out];first | done | rfl),rfl⟩)
def mo (B:Nat) (w:World) (v:Value) (l:List Nat):Prop:=w.ownsRow B 3 1 v l.length (l.map fun (d:Nat)=>Value.int .i64 (d:Int))
def sV (B:Nat) (w:World) (v:Value) (l:List UInt8):Prop:=w.ownsRow B 5 1 v l.length (l.map fun c=>Value.int .u8 (c.toNat:Int))
theorem pF {B:Nat} {w w':World} {e:TypeId} {n:Nat} {v:Value} {xs:List Value} (h:w.ownsRow B e 1 v n xs) (M:∀ b,B≤b→b<w.heap.size→w'.heap[b]? = w.heap[b]?):w'.ownsRow B e 1 v n xs:=by
 refine ⟨h.1,?_⟩;rcases h.2 with N | ⟨g,cap,cur,e,J,I,r⟩
 ·exact .inl N
 ·refine .inr ⟨g,cap,cur,e,J,?_,r⟩;have D:g<w.heap.size:=by
   rcases Nat.lt_or_ge g w.heap.size with D | hge
   ·exact D
   ·rw [Array.getElem?_eq_none hge] at I;cases I
  exact (M g J D).trans I
theorem lr {B:Nat} {w:World} {e:TypeId} {n:Nat} {v:Value} {xs:List Value} (h:w.ownsRow B e 1 v n xs):∃ A c,v=.slice A n c∧n≤c:=by
 rcases h.2 with ⟨rfl,I⟩ | ⟨g,cap,cur,rfl,_,_,D,_⟩
 ·exact ⟨none,0,by rw [I],by omega⟩
 ·exact ⟨_,cap,rfl,D⟩
theorem G9:(Tryz.prog.info? 3).map (fun i=>(i.zero,i.size,i.bytes))=some (some (.int .i64 0),1,8):=by kernel_rfl
theorem infoByte:(Tryz.prog.info? 5).map (fun i=>(i.zero,i.size,i.bytes))=some (some (.int .u8 0),1,1):=by kernel_rfl
theorem wS {ops:Array Oper} {rest:List Oper} {o:Oper} {a:Act} {Q:Exit→Act→World→Prop} (O:o.guard=none) (s x:Operand)
  (y:o.op=.call { callee:=.builtin .append,args:=#[s,x],argTypes:=#[87,87] })
  (B:Nat) (w1:World) (u:Value) (l:List Nat) (d:Nat) (D:Int) (hs:a.eval s=u) (S:Nat) (q:a.eval x=.slice (some ⟨S,0,none⟩) 1 1) (hS:w1.heap.size=S) (hD:D=(d:Int))
  (U:mo B w1 u l) (hB:B≤w1.heap.size) (hl:l.length≤1000000)
  (h:∀ g c w2,mo B w2 (.slice (some ⟨g,0,none⟩) (l.length+1) c) (l++[d])→Below B w1 w2→wpList Tryz.prog ops Q rest (a.put o.dst (.slice (some ⟨g,0,none⟩) (l.length+1) c)) w2) :
  wpList Tryz.prog ops Q (o::rest) a (w1.alloc (.cells #[.int .i64 D] 3)):=by
 subst hS hD;refine wpList_plain O fun _ hK=>?_;obtain ⟨i0,z,N,M,J⟩:=info_parts G9;refine wp_append_lies _ s x 87 y B 3 i0 _ 1 8 Tryz.underlying87 z N M J rfl (by omega) u l.length _ hs (World.ownsRow.alloc U _) ⟨w1.heap.size,0,none⟩ 1 1 [.int .i64 (d:Int)] q rfl
  (World.news_of_block (cs:=#[.int .i64 (d:Int)]) (heap_alloc_new _ _)) (by simp [Value.oneCell']) (by omega) (by unfold maxLen;omega) (by omega) (by rw [World.size_alloc];omega) _ rfl ?_
 intro g c w2 hown1 I hat _;refine hK _ _ (h g c w2 ?_ ?_)
 ·unfold mo;rw [List.map_append,List.length_append];exact hown1
 ·have h1:=(Below.refl B w1).alloc hB (.cells #[.int .i64 (d:Int)] 3);exact h1.trans ⟨I.os,I.tape,I.output,I.size,fun k hk=>I.block k (by rw [World.size_alloc];omega) (fun e=>by have:=(World.ownsRow.lt U k e.symm).1;omega)⟩
theorem li {ops:Array Oper} {rest:List Oper} {o:Oper} {a:Act} {Q:Exit→Act→World→Prop} (O:o.guard=none) (s x:Operand)
  (y:o.op=.call { callee:=.builtin .append,args:=#[s,x],argTypes:=#[27,27] })
  (B:Nat) (w1:World) (u:Value) (l:List UInt8) (d:UInt8) (D:Int) (hs:a.eval s=u) (S:Nat) (q:a.eval x=.slice (some ⟨S,0,none⟩) 1 1) (hS:w1.heap.size=S) (hD:D=(d.toNat:Int))
  (U:sV B w1 u l) (hB:B≤w1.heap.size) (hl:l.length≤1000000)
  (h:∀ g c w2,sV B w2 (.slice (some ⟨g,0,none⟩) (l.length+1) c) (l++[d])→Below B w1 w2→wpList Tryz.prog ops Q rest (a.put o.dst (.slice (some ⟨g,0,none⟩) (l.length+1) c)) w2) :
  wpList Tryz.prog ops Q (o::rest) a (w1.alloc (.cells #[.int .u8 D] 5)):=by
 subst hS hD;refine wpList_plain O fun _ hK=>?_;obtain ⟨i0,z,N,M,J⟩:=info_parts infoByte;refine wp_append_lies _ s x 27 y B 5 i0 _ 1 1 Tryz.underlying27 z N M J rfl (by omega) u l.length _ hs (World.ownsRow.alloc U _) ⟨w1.heap.size,0,none⟩ 1 1 [.int .u8 (d.toNat:Int)] q rfl
  (World.news_of_block (cs:=#[.int .u8 (d.toNat:Int)]) (heap_alloc_new _ _)) (by simp [Value.oneCell']) (by omega) (by unfold maxLen;omega) (by omega) (by rw [World.size_alloc];omega) _ rfl ?_
 intro g c w2 hown1 I hat _;refine hK _ _ (h g c w2 ?_ ?_)
 ·unfold sV;rw [List.map_append,List.length_append];exact hown1
 ·have h1:=(Below.refl B w1).alloc hB (.cells #[.int .u8 (d.toNat:Int)] 5);exact h1.trans ⟨I.os,I.tape,I.output,I.size,fun k hk=>I.block k (by rw [World.size_alloc];omega) (fun e=>by have:=(World.ownsRow.lt U k e.symm).1;omega)⟩
theorem BW (c:Nat) (I:0<c) (h:c<100):fH c=c % 10::fH (c / 10):=by
 unfold fH;by_cases D:c<10
 ·rw [if_neg (by omega),if_pos D,Nat.mod_eq_of_lt D,if_pos (by omega)]
 ·rw [if_neg (by omega),if_neg D,if_neg (by omega),if_pos (by omega)]
theorem BX:fH 0=[]:=rfl
theorem E1 (c:Nat) (h:c<100):∀ x∈fH c,x≤9:=by
 unfold fH;intro x D;split at D
 ·cases D
 ·split at D
  ·(obtain rfl:x=c:=by simpa using D);omega
  ·rcases List.mem_cons.1 D with rfl | D
   ·omega
   ·(obtain rfl:x=c / 10:=by simpa using D);omega
theorem DK (c:Nat):(fH c).length≤2:=by
 unfold fH;split
 ·simp
 ·split <;> simp
theorem sW (f:Nat) (I:f≤16):∀ (l:List Nat) (m:Nat),(∀ x∈l,x≤9)→m≤15→∀ x∈dJ f l m,x≤9
 | [],m,_,M,x,D=>E1 m (by omega) x D
 | y::r,m,hd,M,x,D=>by
  have J:=hd y (List.mem_cons_self);have hb:y * f≤9 * 16:=Nat.mul_le_mul J I;rw [dJ] at D;rcases List.mem_cons.1 D with rfl | D
  ·omega
  ·exact sW f I r _ (fun z hz=>hd z (List.mem_cons_of_mem _ hz)) (by omega) x D
theorem oA (f:Nat):∀ (l:List Nat) (m:Nat),(dJ f l m).length≤l.length+2
 | [],m=>by rw [dJ];have:=DK m;simp;omega
 | y::r,m=>by rw [dJ,List.length_cons,List.length_cons];have:=oA f r ((y * f+m) / 10);omega
theorem uE (B:Nat) (v:Value) (l:List Nat) (f m:Nat) (w:World) (M:mo B w v l) (hB:B≤w.heap.size) (hd:∀ x∈l,x≤9) (hf:f≤16) (hm:m≤15) (hl:l.length≤1000) :
  Calls Tryz.prog 111 #[v,.int .i64 (f:Int),.int .i64 (m:Int)] w fun e w'=>∃ v',e=.returned v'∧mo B w' v' (dJ f l m)∧Below B w w':=by
 obtain ⟨A,cp,rfl,gy⟩:=lr M;obtain ⟨T,hT⟩:∃ T,T=dJ f l m:=⟨_,rfl⟩;rw [←hT];have HT:=hid hT;(have g0:T.length≤1002:=by rw [hT];have:=oA f l m;omega);clear hT;(go_enter Tryz.func111,Tryz.ntmps111);(go_wp2_with fail);go_loopg [2,7,8,11] l.length (fun gg u2 _ _ u11 wr=>∃ (i c:Nat) (done:List Nat),i≤l.length∧l.length-i≤gg∧u2=.int .i64 (c:Int)∧u11=.int .i64 (i:Int)∧done.length=i∧mo B wr (.slice A l.length cp) (done++l.drop i)∧Below B w wr∧done++dJ f (l.drop i) c=T∧c≤15)
 case atStart=>exact ⟨0,m,[],Nat.zero_le _,by omega,rfl,rfl,rfl,M,Below.refl _ _,HT.out.symm,hm⟩
 case round=>
  clear M hm;obtain ⟨i,c,done,hi,gv,rfl,rfl,yk,M,D,hq,hc⟩:=hrel;have HO:=hid M;have q:=hid hq;have I:=hid yk;clear M hq yk;by_cases gi:i<l.length
  ·(have gh:(i:Int)<(l.length:Int):=by omega);(have g2:(0:Int)≤(i:Int):=by omega);have y:=List.drop_eq_getElem_cons gi;have gb:=hd _ (List.getElem_mem gi);generalize l[i]=x at *;have gr:=hid y;have J:=HO.out;rw [y] at J;clear y;obtain ⟨g,c',hv,gm,gu⟩:=World.ownsRow.form J (by rw [List.length_append,List.length_cons];omega);(have U:(done++x::l.drop (i+1)).length=l.length:=by rw [List.length_append,List.length_cons,List.length_drop,I.out];omega);injection hv with e1 e2 e3;subst e1 e3;unfold mo at J;rw [U] at J;have z:=World.ownsRow.cellAt J i (by omega);have gw:=World.ownsRow.frozenAt J i;(have h:((done++x::l.drop (i+1)).map fun (d:Nat)=>Value.int .i64 (d:Int))[i]? = some (.int .i64 (x:Int)):=by rw [List.map_append,List.getElem?_append_right (by rw [List.length_map,I.out];exact Nat.le_refl _)];simp [I.out]);rw [h] at z;have hp:x * f≤9 * 16:=Nat.mul_le_mul gb hf;(have q1:IntKind.i64.wrap ((x:Int) * (f:Int))=((x * f:Nat):Int):=by rw [show (x:Int) * (f:Int)=((x * f:Nat):Int) by simp];exact IntWalk.i64_in _ (by omega));have HX:=hid (show dJ f (l.drop i) c=(x * f+c) % 10::dJ f (l.drop (i+1)) ((x * f+c) / 10) by rw [gr.out,dJ]);generalize x * f=p at *;have q2:IntKind.i64.wrap ((p:Int)+(c:Int))=(p:Int)+(c:Int):=IntWalk.i64_in _ (by omega);have gd:=World.ownsRow.stored J i (.int .i64 (((p:Int)+(c:Int)) % 10));(have O:mo B (wr.setCell ⟨g,i,none⟩ (.int .i64 (((p:Int)+(c:Int)) % 10))) (.slice (some ⟨g,0,none⟩) l.length cp) ((done++[(p+c) % 10])++l.drop (i+1)):=by have h1:=gd.1;(have e:((done++x::l.drop (i+1)).map fun (d:Nat)=>Value.int .i64 (d:Int)).set i (.int .i64 (((p:Int)+(c:Int)) % 10))=((done++[(p+c) % 10])++l.drop (i+1)).map fun (d:Nat)=>Value.int .i64 (d:Int):=by rw [show ((p:Int)+(c:Int)) % 10=(((p+c) % 10:Nat):Int) by omega];rw [List.map_append,List.set_append_right _ _ (by rw [List.length_map,I.out];exact Nat.le_refl _)];simp [I.out]);rw [e] at h1;unfold mo;rw [show ((done++[(p+c) % 10])++l.drop (i+1)).length=l.length by rw [List.length_append,List.length_append,List.length_drop,I.out];simp;omega];exact h1);have ga:Below B w (wr.setCell ⟨g,i,none⟩ (.int .i64 (((p:Int)+(c:Int)) % 10))):=D.setCell (by exact gm) _;have gq:=hid O;have HI:=hid (show (((p:Int)+(c:Int)) / 10)=(((p+c) / 10:Nat):Int) by omega);(have ge:(p+c) / 10≤15:=by omega);clear gd O J h gb U e2;(go_wp2_with fail);go_roundg (l.length-(i+1))
   case measure=>omega
   case rel=>exact ⟨i+1,(p+c) / 10,done++[(p+c) % 10],by omega,Nat.le_refl _,by rw [HI.out],by go_num,by rw [List.length_append,I.out];rfl,gq.out,ga,by rw [←q.out,HX.out,List.append_assoc];rfl,ge⟩
  ·(have gh:¬ (i:Int)<(l.length:Int):=by omega);have N:=hid (show done++fH c=T by rw [←q.out,List.drop_of_length_le (by omega),dJ]);have gl:=hid (show mo B wr (.slice A l.length cp) done by have:=HO.out;rw [List.drop_of_length_le (by omega),List.append_nil] at this;exact this);(have gj:done.length=l.length:=by have:=I.out;omega);have g3:=hid gj;clear q HO I gj;rename World=>wo;(go_wp2_with fail);go_loopg [0,2] c (fun gg u0 u2 wr=>∃ (L:List Nat) (d:Nat),mo B wr u0 L∧u2=.int .i64 (d:Int)∧L++fH d=T∧Below B w wr∧d≤15∧d≤gg)
   case atStart=>exact ⟨done,c,gl.out,rfl,N.out,D,hc,Nat.le_refl _⟩
   case round=>
    clear gl N D hc;obtain ⟨L,d,M,rfl,hq,D,gs,gx⟩:=hrel;have HO:=hid M;have q:=hid hq;obtain ⟨A1,c1,hu,gz⟩:=lr M;clear M hq;subst hu;by_cases gn:0<d
    ·(have gt:(0:Int)<(d:Int):=by omega);have N:=hid (show (L++[d % 10])++fH (d / 10)=T by rw [←q.out,BW d gn (by omega),List.append_assoc];rfl);(have g1:L.length≤1002:=by have:=congrArg List.length q.out;rw [List.length_append] at this;omega);have HI:=hid (show ((d:Int) / 10)=((d / 10:Nat):Int) by omega);have HM:=hid (show ((d:Int) % 10)=((d % 10:Nat):Int) by omega);clear q;go_wp2_with (at_builtin;refine wS rfl (.tmp 31) (.tmp 34) rfl B _ _ L (d % 10) _ rfl _ rfl rfl HM.out HO.out (by have:=D.size;omega) (by omega) ?_;intro g c w2 gp ga);go_roundg (d / 10)
     case measure=>omega
     case rel=>exact ⟨L++[d % 10],d / 10,gp,by rw [HI.out],N.out,D.trans ga,by omega,Nat.le_refl _⟩
    ·(obtain rfl:d=0:=by omega);have HL:=hid (show L=T by rw [←q.out,BX,List.append_nil]);(go_wp2_with fail);go_ret;exact ⟨_,rfl,by rw [←HL.out];exact HO.out,D⟩
def bH:Ending:=.panicked [{ v:=.iface 112 (.agg #[]),recovered:=false }]
theorem cQ (w:World):Calls Tryz.prog 113 #[.bool true] w fun e w'=>e=.returned (.tuple #[])∧w=w':=by (go_enter Tryz.func113,Tryz.ntmps113);(go_wp2_with fail);go_end0;exact ⟨rfl,rfl⟩
theorem cj (w:World):Calls Tryz.prog 113 #[.bool false] w fun e w'=>e=bH∧w=w':=by (go_enter Tryz.func113,Tryz.ntmps113);(go_wp2_with fail);exact ⟨rfl,rfl,rfl⟩
def Ia (w:World) (r:Option Nat) (e:Ending) (w':World):Prop:=
 Below w.heap.size w w'∧match r with
 | some v=>e=.returned (.int .i64 (v:Int))
 | none=>e=bH
def sr (radix:Nat) (r:List UInt8) (v:Nat):Option Nat→Option Nat
 | none=>none
 | some d=>if d<radix then fk radix r (v * radix+d) else none
theorem pG (radix:Nat) (c:UInt8) (r:List UInt8) (v:Nat):fk radix (c::r) v=sr radix r v (da c.toNat):=by rw [fk];cases da c.toNat <;> rfl
theorem DL (c d:Nat) (D:da c=some d):d≤15:=by
 unfold da at D;split at D
 ·injection D with D;omega
 ·split at D
  ·injection D with D;omega
  ·split at D
   ·injection D with D;omega
   ·cases D
theorem pH (c:Nat) (h:128≤c):da c=none:=by unfold da;rw [if_neg (by omega),if_neg (by omega),if_neg (by omega)]
theorem BY (s:ByteArray) (i:Nat):(Utf8.decode s i).1<2000000:=by
 have I:=df s i;rw [eQ,un];split
 ·simp only;omega
 ·split
  ·split <;> simp only <;> omega
  ·split
   ·split <;> simp only <;> omega
   ·split
    ·split
     ·rename_i D;have:=D.2;unfold Utf8.valid at this;simp at this;simp only;omega
     ·simp only;omega
    ·simp only;omega
theorem wT (s:ByteArray) (n:Nat):(s.extract 0 n).data.toList=s.data.toList.take n:=by rw [Lib.extract_data];simp
theorem m8 (s:ByteArray) (n radix:Nat) (hn:n≤8) (hr:radix≤16) (w:World) :
  Calls Tryz.prog 195 #[.string s,.int .i64 (n:Int),.int .i64 (radix:Int)] w (Ia w (ct s.data.toList n radix)):=by
 obtain ⟨R,hR⟩:∃ R,R=ct s.data.toList n radix:=⟨_,rfl⟩;rw [←hR];have HR:=hid hR;clear hR;have h:s.data.toList.length=s.size:=rfl;by_cases O:n≤s.size
 rotate_left
 ·have U:=hid (show R=none by rw [HR.out,ct,if_neg (by rw [h];exact O)]);(have hd:decide (n≤s.size)=false:=by rw [decide_eq_false_iff_not];exact O);(have gn:decide ((n:Int)≤(s.size:Int))=false:=by rw [decide_eq_false_iff_not];omega);clear O HR h;(go_enter Tryz.func195,Tryz.ntmps195);(go_wp2_with fail);refine (cj _).mono ?_;rintro e w2 ⟨rfl,rfl⟩;unfold bH;refine ⟨rfl,?_⟩;rw [U.out];exact ⟨Below.refl _ _,rfl⟩
 have yk:=hid (show fk radix ((s.extract 0 n).data.toList) 0=R by rw [HR.out,ct,if_pos (by rw [h];exact O),wT]);have gp:=hid (show (s.extract 0 n).size=n by rw [ByteArray.size_extract];omega);(have hd:decide (n≤s.size)=true:=by rw [decide_eq_true_iff];exact O);(have gn:decide ((n:Int)≤(s.size:Int))=true:=by rw [decide_eq_true_iff];omega);(have p0:(0:Int)≤(n:Int):=by omega);clear HR h;(go_enter Tryz.func195,Tryz.ntmps195);(go_wp2_with fail);refine (cQ _).mono ?_;rintro e w2 ⟨rfl,rfl⟩;(go_wp2_with fail);have ga:=World.iter_heap w (s.extract 0 n) 0;have gj:Below w.heap.size w (w.iter (s.extract 0 n) 0):=(Below.refl _ w).alloc (Nat.le_refl _) _;generalize s.extract 0 n=t at *;(have gu:t.size≤8:=by have:=gp.out;omega);go_loopg [7,9,10,20,21] t.size (fun g u7 _ _ _ _ wr=>∃ j v:Nat,j≤t.size∧t.size-j≤g∧wr.heap[w.heap.size]? = some (.stringIter t j)∧Below w.heap.size w wr∧u7=.int .i64 (v:Int)∧v<16 ^ j∧fk radix (t.data.toList.drop j) v=R)
 case atStart=>exact ⟨0,0,Nat.zero_le _,by omega,ga,gj,rfl,by decide,by rw [List.drop_zero];exact yk.out⟩
 case round=>
  clear ga gj yk;obtain ⟨j,v,hj,gv,hit,hB,rfl,gs,hq⟩:=hrel;have ge:=hid hit;have HQ:=hid hq;clear hit hq;(have gt:v<4294967296:=by have h1:(16:Nat) ^ j≤16 ^ 8:=Nat.pow_le_pow_right (by omega) (by omega);(have h2:(16:Nat) ^ 8=4294967296:=by decide);omega);by_cases J:j<t.size
  ·have D:=fun ty=>run_next_any_at (P:=Tryz.prog) wr w.heap.size t j ty ge.out J;obtain ⟨c,rr,y,gd,gb⟩:=fT t j J;by_cases z:aa t j<128
   ·have hd2:=d8 t j z;rw [hd2] at D;have N:=hid (show sr radix rr v (da (aa t j))=R by rw [←HQ.out,y,pG,gd]);have gq:=hid gb;have j1:=iterAt_heap wr w.heap.size t j (j+1) ge.out;have j2:Below w.heap.size w (wr.iterAt w.heap.size t (j+1)):=bR hB (Nat.le_refl _);generalize wr.iterAt w.heap.size t (j+1)=W1 at D j1 j2;have J1:=hid j1;clear hd2 y gd gb j1 HQ;generalize aa t j=bb at *;cases I:da bb with
    | none=>have U:=hid (show R=none by rw [←N.out,I];rfl);(have M:it bb = -1:=by unfold it;rw [I]);clear N I;(go_wp2_with fail);refine (dg bb (by omega) _).mono ?_;rw [M];rintro e w3 ⟨rfl,rfl⟩;(go_wp2_with fail);refine (cj _).mono ?_;rintro e w3 ⟨rfl,rfl⟩;unfold bH;refine ⟨rfl,?_⟩;rw [U.out];exact ⟨j2,rfl⟩
    | some d=>
     (have M:it bb=(d:Int):=by unfold it;rw [I]);have gr:=DL bb d I;(have e0:decide ((0:Int)≤(d:Int))=true:=by rw [decide_eq_true_iff];omega);by_cases gi:d<radix
     ·have U:=hid (show fk radix rr (v * radix+d)=R by rw [←N.out,I,sr,if_pos gi]);(have e1:decide ((d:Int)<(radix:Int))=true:=by rw [decide_eq_true_iff];omega);have hp:v * radix≤4294967295 * 16:=Nat.mul_le_mul (by omega) hr;(have gl:v * radix+d<16 ^ (j+1):=by have h1:v * radix≤v * 16:=Nat.mul_le_mul_left _ hr;rw [Nat.pow_succ];omega);(have q1:IntKind.i64.wrap ((v:Int) * (radix:Int))=((v * radix:Nat):Int):=by rw [show (v:Int) * (radix:Int)=((v * radix:Nat):Int) by simp];exact IntWalk.i64_in _ (by omega));clear N I;generalize v * radix=p at *;have q2:IntKind.i64.wrap ((p:Int)+(d:Int))=(p:Int)+(d:Int):=IntWalk.i64_in _ (by omega);(go_wp2_with fail);refine (dg bb (by omega) _).mono ?_;rw [M];rintro e w3 ⟨rfl,rfl⟩;(go_wp2_with fail);refine (cQ _).mono ?_;rintro e w3 ⟨rfl,rfl⟩;(go_wp2_with fail);go_roundg (t.size-(j+1))
      case measure=>omega
      case rel=>exact ⟨j+1,p+d,by omega,Nat.le_refl _,J1.out,j2,by go_num,gl,by rw [←gq.out];exact U.out⟩
     ·have U:=hid (show R=none by rw [←N.out,I,sr,if_neg gi]);(have e1:decide ((d:Int)<(radix:Int))=false:=by rw [decide_eq_false_iff_not];omega);clear N I;(go_wp2_with fail);refine (dg bb (by omega) _).mono ?_;rw [M];rintro e w3 ⟨rfl,rfl⟩;(go_wp2_with fail);refine (cj _).mono ?_;rintro e w3 ⟨rfl,rfl⟩;unfold bH;refine ⟨rfl,?_⟩;rw [U.out];exact ⟨j2,rfl⟩
   ·have hh:=d5 t j J (by omega);have gg:=BY t j;have U:=hid (show R=none by rw [←HQ.out,y,pG,pH _ (by omega)];rfl);have gh:=hh.1;clear hh z y gd gb;generalize Utf8.decode t j=q at *;obtain ⟨r,k⟩:=q;simp only at gh D gg;have j2:Below w.heap.size w (wr.iterAt w.heap.size t (j+k)):=bR hB (Nat.le_refl _);generalize wr.iterAt w.heap.size t (j+k)=W1 at D j2;(have M:it r = -1:=by unfold it;rw [pH r gh]);(go_wp2_with fail);refine (dg r gg _).mono ?_;rw [M];rintro e w3 ⟨rfl,rfl⟩;(go_wp2_with fail);refine (cj _).mono ?_;rintro e w3 ⟨rfl,rfl⟩;unfold bH;refine ⟨rfl,?_⟩;rw [U.out];exact ⟨j2,rfl⟩
  ·have gm:=fun ty=>run_next_end_at (P:=Tryz.prog) wr w.heap.size t j ty ge.out J;have U:=hid (show R=some v by rw [←HQ.out,List.drop_of_length_le (by have:t.data.toList.length=t.size:=rfl;omega),fk]);(go_wp2_with fail);go_ret;rw [U.out];exact ⟨hB,rfl⟩
def CU:List (Int × Int):=[(97,7),(98,8),(102,12),(110,10),(114,13),(116,9),(118,11),(92,92),(34,34)]
def BZ {H:Type} (D:DataW H):List (Int × Int)→DataW H
 | []=>D
 | p::r=>BZ (D.put (.int .u8 p.1) (.lit (.int .u8 p.2))) r
theorem pI {H:Type} (w:World) {ops:Array Oper} {rest:List Oper} {o:Oper} {a:Act} {Q:Exit→Act→World→Prop}
  (z:o.guard=none) (m:Operand) (kk vv:Int) (O:o.op=Op.insert 156 m (.const (.int .u8 kk)) (.const (.int .u8 vv))) (hk:0≤kk∧kk≤255) (q:0≤vv∧vv≤255) (b n:Nat) (D:DataW H)
  (y:a.eval m=.map (some b)) (J:w.ownsMap Tryz.prog 5 (plainElem Tryz.prog 5) b n D) (hn:n<100)
  (hK:∀ w',w'.ownsMap Tryz.prog 5 (plainElem Tryz.prog 5) b (n+1) (D.put (.int .u8 kk) (.lit (.int .u8 vv)))→w.grownBy w' (some b)→wpList Tryz.prog ops Q rest (a.put o.dst undef) w') :
  wpList Tryz.prog ops Q (o::rest) a w:=by refine wpList_plain z fun K' hK'=>?_;(have N:(Lit.int .u8 kk).wf=true:=by simp [Lit.wf,IntKind.min,IntKind.max,IntKind.signed,IntKind.bits];omega);(have M:(Lit.int .u8 vv).wf=true:=by simp [Lit.wf,IntKind.min,IntKind.max,IntKind.signed,IntKind.bits];omega);obtain ⟨w',I,h,U⟩:=J.update (Maps.int_keyed Tryz.underlying5) Tryz.underlying156 (by unfold maxLen;omega) (Maps.keyOf_int_mk Tryz.underlying5 N) (plainElem_int Tryz.underlying5 M);unfold Oper.wp;have e1:a.eval (.const (.int .u8 kk))=.int .u8 kk:=rfl;have e2:a.eval (.const (.int .u8 vv))=.int .u8 vv:=rfl;simp [execOp,O,y,e1,e2,I,Result.andThen];exact hK' _ _ (hK w' h U)
end
end Go.Proofs.YtiebcdeafofgdaaGreatDoor

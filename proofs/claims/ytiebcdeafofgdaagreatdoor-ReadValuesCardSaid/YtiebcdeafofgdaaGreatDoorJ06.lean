/-
  Parts of the proof: Rrow Rfree Rslice Rkit. By an AI agent.
-/
import Derived.Test.YtiebcdeafofgdaaGreatDoorJ05
import Derived.Test.YtiebcdeafofgdaaGreatDoorJ01
import Derived.Defers
import Derived.Recover
import Derived.IntWalk
set_option maxRecDepth 100000
set_option maxHeartbeats 8000000
namespace Go.Proofs.YtiebcdeafofgdaaGreatDoor
section
open Go.RowKit Go.Lib Go.Proofs
attribute [local go_sem ↓] Go.wp_at_zero Go.wp_at_succ
def iX (E:bN) (w:World) (r:cZ Nd) (e:Ending) (w':World):Prop:=
 match r with
 | .ok n s=>(∃ v,e=.returned v∧av (fun b=>w.heap.size≤b) w' v n)∧ar E s w w'
 | .fail p=>e=ag p∧w.grownBy w' (some E.R)
 | .out=>False
def cR (X:Nat→Prop) (w:World) (v:Value) (l:List Nd):Prop:=
 ∃ A cap xs,v=.slice A l.length cap∧l.length≤cap∧ez X w 4 A l.length xs∧ak X w l xs
def EH (E:bN) (w:World) (r:cZ (List Nd)) (e:Ending) (w':World):Prop:=
 match r with
 | .ok l s=>(∃ v,e=.returned v∧cR (fun b=>w.heap.size≤b) w' v l)∧ar E s w w'
 | .fail p=>e=ag p∧w.grownBy w' (some E.R)
 | .out=>False
def dZ (E:bN) (k:FuncId) (args:Array Value) (m:R Nd) (w0:World):Prop:=
 ∀ (w:World) (s:St),w0.grownBy w (some E.R)→aD E w s→m E.c s≠.out→Calls Tryz.prog k args w (iX E w (m E.c s))
theorem dZ.grown {E:bN} {k:FuncId} {args:Array Value} {m:R Nd} {w0 w1:World} (h:dZ E k args m w0) (D:w0.grownBy w1 (some E.R)):dZ E k args m w1:=
 fun w s hw hr hm=>h w s (D.trans hw) hr hm
theorem mM:(Tryz.prog.info? 24).map (fun i=>(i.zero,i.size,i.bytes))=some (some (.agg #[.int .i64 0,.string ⟨#[]⟩,.slice none 0 0,.int .i64 0]),4,56):=by kernel_rfl
structure mz (B:Nat) (w:World) (v:Value) (l:List Nd):Prop where
 out:∃ xs,w.ownsRow B 24 4 v l.length xs∧ak (fun b=>B≤b∧some b≠v.ownBlock) w l xs
theorem mz.nil (B:Nat) (w:World):mz B w (.slice none 0 0) []:=⟨[],World.ownsRow_nil _ _ _ _,ak.nil⟩
theorem mz.keep {B:Nat} {w w':World} {v:Value} {l:List Nd} (h:mz B w v l) (J:∀ b,B≤b→b<w.heap.size→w'.heap[b]? = w.heap[b]?):mz B w' v l:=by
 obtain ⟨xs,N,O⟩:=h.out;refine ⟨xs,⟨N.1,?_⟩,O.keep fun b hb D=>J b hb.1 D⟩;rcases N.2 with U | ⟨g,cap,cur,e,M,I,r⟩
 ·exact .inl U
 ·refine .inr ⟨g,cap,cur,e,M,?_,r⟩;have D:g<w.heap.size:=by
   rcases Nat.lt_or_ge g w.heap.size with D | hge
   ·exact D
   ·rw [Array.getElem?_eq_none hge] at I;cases I
  exact (J g M D).trans I
theorem mz.grown {B R:Nat} {w w':World} {v:Value} {l:List Nd} (h:mz B w v l) (D:w.grownBy w' (some R)) (I:R<B):mz B w' v l:=
 h.keep fun b hb hlt=>D.block b hlt (fun e=>by injection e;omega)
theorem mz.values {B:Nat} {w:World} {v:Value} {l:List Nd} (h:mz B w v l):cR (fun b=>B≤b) w v l:=by
 obtain ⟨xs,D,J⟩:=h.out;rcases D.2 with ⟨rfl,y⟩ | ⟨g,cap,cur,rfl,q,U,I,_,N,M⟩
 ·exact ⟨none,0,xs,by rw [y],by omega,⟨D.1,fun h=>by omega⟩,J.mono fun b hb _=>hb.1⟩
 ·refine ⟨_,cap,xs,rfl,I,⟨D.1,fun _=>⟨g,0,rfl,q,fun j u hu=>?_⟩⟩,J.mono fun b hb _=>hb.1⟩;(have O:j<l.length * 4:=by have:=(List.getElem?_eq_some_iff.1 hu).1;rw [D.1] at this;exact this);rw [Nat.zero_add];unfold World.cell?;rw [U];simp only [Option.isSome_none,Bool.false_eq_true,if_false];rw [←M,List.getElem?_take_of_lt O] at hu;rw [←hu];simp
theorem mz.push {B S:Nat} {w1 w2:World} {u v':Value} {l:List Nd} {n:Nd} {o:Obj} {cs:List Value} {xs:List Value}
  (O:ak (fun b=>B≤b∧some b≠u.ownBlock) w1 l xs)
  (h:bD (fun b=>S≤b) w1 n cs) (q:B≤S) (N:∀ g,u.ownBlock=some g→g<S)
  (I:w2.ownsRow B 24 4 v' (l.length+1) (xs++cs)) (U:(w1.alloc o).grownBy w2 u.ownBlock) (J:v'.ownBlock=u.ownBlock∨v'.ownBlock=some (w1.alloc o).heap.size):mz B w2 v' (l++[n]):=by
 refine ⟨xs++cs,by rw [List.length_append];exact I,?_⟩;have z:ak (fun b=>B≤b∧some b≠u.ownBlock∧b<w1.heap.size) w1 (l++[n]) (xs++cs):=
  (O.mono fun b hb D=>⟨hb.1,hb.2,D⟩).app (ak.one (h.mono fun b hb D=>⟨Nat.le_trans q hb,fun e=>by have:=N b e.symm;omega,D⟩))
 have y:=z.keep (w':=w2) fun b hb D=>(U.block b (by rw [World.size_alloc];omega) hb.2.1).trans (Below.heap_alloc w1 o b D);refine y.mono fun b hb _=>⟨hb.1,?_⟩;rcases J with e | e
 ·rw [e];exact hb.2.1
 ·rw [e,World.size_alloc];intro M;injection M with M;omega
theorem nF (n:Nd) (A:Option Addr) (cap:Nat):∀ u∈[Value.int .i64 n.kind,.string n.text,.slice A n.kids.length cap,.int .i64 n.pos],u.oneCell'=true:=by intro u D;simp only [List.mem_cons,List.not_mem_nil,or_false] at D;rcases D with rfl | rfl | rfl | rfl <;> rfl
theorem mz.lt {B:Nat} {w:World} {v:Value} {l:List Nd} (h:mz B w v l):∀ g,v.ownBlock=some g→B≤g∧g<w.heap.size:=by obtain ⟨xs,D,_⟩:=h.out;exact fun g hg=>D.lt g hg
structure EI (E:bN) (s:St) (B:Nat) (w w1 w2:World) (v':Value) (l:List Nd):Prop where
 own:mz B w2 v' l
 mov:ar E s w w2
 old:∀ b,b<w1.heap.size→(B≤b→False)→w2.heap[b]? = w1.heap[b]?
 le:w1.heap.size≤w2.heap.size
theorem GT {o:Oper} {a:Act} {K:Act→World→Prop} {Q:Exit→Act→World→Prop} (s x:Operand)
  (ho:o.op=.call { callee:=.builtin .append,args:=#[s,x],argTypes:=#[22,22] })
  (E:bN) (st:St) (B S:Nat) (w w1:World) (u:Value) (l:List Nd) (n:Nd) (A:Option Addr) (cap:Nat) (hs:a.eval s=u) (hx:a.eval x=.slice (some ⟨w1.heap.size,0,none⟩) 1 1)
  (hO:mz B w1 u l) (D:ar E st w w1) (ga:w.heap.size≤B) (hR:E.R<B) (hB:B≤S) (hS:S≤w1.heap.size) (hu:∀ g,u.ownBlock=some g→g<S) (hl:l.length≤1000000)
  (hV:bD (fun b=>S≤b) w1 n [.int .i64 n.kind,.string n.text,.slice A n.kids.length cap,.int .i64 n.pos])
  (h:∀ g c w2,EI E st B w w1 w2 (.slice (some ⟨g,0,none⟩) (l.length+1) c) (l++[n])→K (a.put o.dst (.slice (some ⟨g,0,none⟩) (l.length+1) c)) w2) :
  o.wp Tryz.prog a (w1.alloc (.cells (nv n A cap) 24)) K Q:=by
 obtain ⟨i0,hi,U,O,N⟩:=info_parts mM;obtain ⟨xs,J,y⟩:=hO.out;refine wp_append_lies _ s x 22 ho B 24 i0 _ 4 56 Tryz.underlying22 hi U O N rfl (by omega) u l.length xs hs (J.alloc _) ⟨w1.heap.size,0,none⟩ 1 1 [.int .i64 n.kind,.string n.text,.slice A n.kids.length cap,.int .i64 n.pos] hx rfl
  (World.news_of_block (cs:=(nv n A cap)) (heap_alloc_new _ _)) (nF n A cap) (by omega) (by unfold maxLen;omega) (by omega) (by rw [World.size_alloc];omega) _ rfl ?_
 intro g c w2 hown1 I z _;have q:∀ g,u.ownBlock=some g→B≤g:=fun g I=>(hO.lt g I).1;have hold:∀ b,b<w1.heap.size→(B≤b→False)→w2.heap[b]? = w1.heap[b]? := fun b hb hBb=>(I.block b (by rw [World.size_alloc];omega) (fun e=>hBb (q b e.symm))).trans (Below.heap_alloc w1 _ b hb);have M:w1.heap.size≤w2.heap.size:=Nat.le_trans (by rw [World.size_alloc];omega) I.size;refine h g c w2 ⟨mz.push y hV hB hu hown1 I ?_,⟨D.rd.keep fun b hb=>?_,?_⟩,hold,M⟩
 ·rcases z with e | e
  ·exact .inl (by rw [e];rfl)
  ·exact .inr (by rw [e];rfl)
 ·exact hold b (Nat.lt_of_le_of_lt hb D.rd.lt) (fun h2=>by omega)
 ·refine ⟨I.os.trans D.gr.os,I.tape.trans D.gr.tape,I.output.trans D.gr.output,Nat.le_trans D.gr.size M,fun k hk hne=>?_⟩;exact (hold k (Nat.lt_of_lt_of_le hk D.gr.size) (fun h2=>by omega)).trans (D.gr.block k hk hne)
theorem yL {ops:Array Oper} {rest:List Oper} {o:Oper} {a:Act} {Q:Exit→Act→World→Prop} (I:o.guard=none) (s x:Operand)
  (N:o.op=.call { callee:=.builtin .append,args:=#[s,x],argTypes:=#[22,22] })
  (E:bN) (st:St) (B S:Nat) (w w1:World) (u:Value) (l:List Nd) (n:Nd) (A:Option Addr) (cap:Nat) (hs:a.eval s=u) (J:a.eval x=.slice (some ⟨w1.heap.size,0,none⟩) 1 1)
  (hO:mz B w1 u l) (O:ar E st w w1) (D:w.heap.size≤B) (z:E.R<B) (hB:B≤S) (y:S≤w1.heap.size) (M:∀ g,u.ownBlock=some g→g<S) (U:l.length≤1000000)
  (q:bD (fun b=>S≤b) w1 n [.int .i64 n.kind,.string n.text,.slice A n.kids.length cap,.int .i64 n.pos])
  (h:∀ g c w2,EI E st B w w1 w2 (.slice (some ⟨g,0,none⟩) (l.length+1) c) (l++[n])→wpList Tryz.prog ops Q rest (a.put o.dst (.slice (some ⟨g,0,none⟩) (l.length+1) c)) w2) :
  wpList Tryz.prog ops Q (o::rest) a (w1.alloc (.cells (nv n A cap) 24)):=
 wpList_plain I fun _ hK=>GT s x N E st B S w w1 u l n A cap hs J hO O D z hB y M U q fun g c w2 hp=>hK _ _ (h g c w2 hp)
theorem fN (E:bN) (k:FuncId) (first cap:Array Value) (part:R Nd) (en:ByteArray) (g:Nat) (s:St) (w:World) (h:aD E w s)
  (hk:∀ a w,(callFunc k a).run Tryz.prog w=.ok (.enter k a) w) (hp:dZ E k (first++cap) part w) (gi:aO part en g [] E.c s≠.out) (gt:g≤1000000) :
  Calls Tryz.prog 127 #[.pointer (some ⟨E.R,0,none⟩),.string en,.func (.func k) first cap] w (EH E w (aO part en g [] E.c s)):=by
 generalize hres:aO part en g [] E.c s=res at *;have z:=hid hres;have HP:=hid hp;have gn:=hid gi;obtain ⟨i0,hi,g0,gz,gy⟩:=info_parts mM;clear hres hp gi;(go_enter Tryz.func127,Tryz.ntmps127);(go_wp2_with fail);go_loopg [7] g (fun g u7 wr=>∃ (acc:List Nd) (s':St),mz w.heap.size wr u7 acc∧acc.length+g≤1000000∧aO part en g acc E.c s'=res∧ar E s' w wr)
 case atStart=>exact ⟨[],s,mz.nil _ _,by simpa using gt,z.out,ar.refl h⟩
 case round=>
  obtain ⟨acc,U,q,gx,hr,hm⟩:=hrel;have HR:=hid hr;have HO:=hid q;clear hr q z;cases gk with
  | zero=>exact absurd HR.out.symm (by rw [aO];exact gn.out)
  | succ g1=>
   cases hA:aE E.c U en with
   | true=>have HF:=hid (show res=.ok acc (adv U) by rw [←HR.out,aO];simp only [hA,if_true]);(go_wp2_with fail);refine (aQ E U en _ hm.rd hA).mono ?_;rintro e w1 ⟨rfl,D⟩;clear hA;(go_wp2_with fail);go_ret;rw [HF.out];exact ⟨⟨_,rfl,(HO.out.grown D.gr (h.lt)).values⟩,hm.trans D⟩
   | false=>
    have HE:=hid (show (part E.c U).bind (fun n s2=>if aE E.c s2 en then .ok (acc++[n]) (adv s2) else (need (⟨#[44]⟩:BA) E.c s2).bind fun _ s3=>aO part en g1 (acc++[n]) E.c s3)=res by rw [←HR.out,aO];simp only [hA,Bool.false_eq_true,if_false]);clear HR;(go_wp2_with fail);refine (bh E U en _ hm.rd hA).mono ?_;rintro e w1 ⟨rfl,gb⟩;clear hA;have D:=hm.trans gb.moved;have gg:=hid (HO.out.grown gb.moved.gr h.lt);clear HO hm gb;(go_wp2_with fail);cases y:part E.c U with
    | out=>exact absurd HE.out.symm (by rw [y];exact gn.out)
    | fail p=>have HF:=hid (show res=.fail p by rw [←HE.out,y];rfl);refine (HP.out w1 U D.gr D.rd (by rw [y];exact nofun)).mono ?_;rw [y];rintro e w2 ⟨rfl,gs⟩;unfold ag;refine ⟨rfl,?_⟩;rw [HF.out];exact ⟨rfl,D.gr.trans gs⟩
    | ok n s2=>
     have O:=hid (show (if aE E.c s2 en then .ok (acc++[n]) (adv s2) else (need (⟨#[44]⟩:BA) E.c s2).bind fun _ s3=>aO part en g1 (acc++[n]) E.c s3)=res by rw [←HE.out,y];rfl);refine (HP.out w1 U D.gr D.rd (by rw [y];exact nofun)).mono ?_;rw [y];rintro e w2 ⟨⟨v,rfl,hv⟩,N⟩;obtain ⟨A,cp,rfl,hC⟩:=hv.toC;have gq:=D.gr.size;have gl:=N.gr.size;have I:=h.lt;have HU:=hid (show ∀ g,u7.ownBlock=some g→g<w1.heap.size from fun g hg=>(gg.out.lt g hg).2);have gm:=hid (gg.out.grown N.gr I);have HC:=hid hC;have gp:=hid (D.trans N);(have gd:acc.length≤1000000:=by omega);clear y HE HP hv hC D N gg;go_wp2_with (at_builtin;refine yL rfl (.tmp 12) (.tmp 15) rfl E s2 w.heap.size w1.heap.size w w2 u7 acc n A cp rfl rfl gm.out gp.out (Nat.le_refl _) I gq gl HU.out gd HC.out ?_;intro g3 c3 w3 hp3);have M:=hp3.mov;have ge:=hid hp3.own;clear hp3 gm gp HC HU;cases hB:aE E.c s2 en with
     | true=>have HF:=hid (show res=.ok (acc++[n]) (adv s2) by rw [←O.out];simp only [hB,if_true]);refine (aQ E s2 en _ M.rd hB).mono ?_;rintro e w4 ⟨rfl,J⟩;clear hB O;(go_wp2_with fail);go_ret;rw [HF.out];exact ⟨⟨_,rfl,(ge.out.grown J.gr I).values⟩,M.trans J⟩
     | false=>
      have gh:=hid (show (need (⟨#[44]⟩:BA) E.c s2).bind (fun _ s3=>aO part en g1 (acc++[n]) E.c s3)=res by rw [←O.out];simp only [hB,Bool.false_eq_true,if_false]);refine (bh E s2 en _ M.rd hB).mono ?_;rintro e w4 ⟨rfl,ga⟩;have J:=M.trans ga.moved;have gv:=hid (ge.out.grown ga.moved.gr I);clear hB O ge ga M;(go_wp2_with fail);cases hD:aE E.c s2 (⟨#[44]⟩:BA) with
      | true=>
       have gw:=hid (show aO part en g1 (acc++[n]) E.c (adv s2)=res by rw [←gh.out,need];simp only [hD,if_true,cZ.bind_ok]);refine (ch E s2 (⟨#[44]⟩:BA) _ J.rd hD).mono ?_;rintro e w5 ⟨rfl,gj⟩;clear hD gh;(go_wp2_with fail);go_roundg g1
       case measure=>omega
       case rel=>exact ⟨acc++[n],adv s2,gv.out.grown gj.gr I,by rw [List.length_append];simp;omega,gw.out,J.trans gj⟩
      | false=>have HF:=hid (show res=.fail (an E.c s2) by rw [←gh.out,need];simp only [hD,Bool.false_eq_true,if_false,cZ.bind_fail]);refine (cS E s2 (⟨#[44]⟩:BA) _ J.rd hD).mono ?_;rintro e w5 ⟨rfl,gu⟩;unfold ag;refine ⟨rfl,?_⟩;rw [HF.out];exact ⟨rfl,J.gr.trans (ai _ gu)⟩
structure ae (X:Nat→Prop) (w w':World):Prop where
 size:w.heap.size≤w'.heap.size
 block:∀ b,X b→b<w.heap.size→w'.heap[b]? = w.heap[b]?
section
variable {X:Nat→Prop} {w w' w'':World}
theorem ae.refl (X:Nat→Prop) (w:World):ae X w w:=⟨Nat.le_refl _,fun _ _ _=>rfl⟩
theorem ae.trans (h:ae X w w') (h':ae X w' w''):ae X w w'':=
 ⟨Nat.le_trans h.size h'.size,fun b hb hlt=>(h'.block b hb (Nat.lt_of_lt_of_le hlt h.size)).trans (h.block b hb hlt)⟩
theorem ae.alloc (h:ae X w w') (o:Obj):ae X w (w'.alloc o):=
 h.trans ⟨by rw [World.size_alloc];omega,fun b _ hlt=>Below.heap_alloc w' o b hlt⟩
theorem ae.drew (h:ae X w w'):ae X w w'.drew:=h.trans ⟨Nat.le_refl _,fun _ _ _=>rfl⟩
theorem ae.drewN (h:ae X w w') (n:Nat):ae X w (w'.drewN n):=h.trans ⟨(al (Below.refl 0 _) n).size,fun b _ hlt=>(al (Below.refl w'.heap.size w') n).block b hlt⟩
theorem ae.setCell (h:ae X w w') {p:Addr} (D:X p.block→False) (u:Value):ae X w (w'.setCell p u):=
 h.trans ⟨by simp [World.setCell],fun b hb _=>Below.heap_setCell w' p u b (fun e=>D (e▸hb))⟩
theorem ae.of_grown {r:Option Nat} (D:w.grownBy w' r) (I:∀ g,r=some g→X g→False):ae X w w':=
 ⟨D.size,fun b hb hlt=>D.block b hlt (fun e=>I b e.symm hb)⟩
theorem ae.of_below {B:Nat} (D:Below B w w') (I:∀ b,X b→b<w.heap.size→b<B):ae X w w':=
 ⟨D.size,fun b hb hlt=>D.block b (I b hb hlt)⟩
theorem av.kept {v:Value} {n:Nd} (h:av X w v n) (D:ae X w w'):av X w' v n:=h.keep D.block
theorem cR.kept {v:Value} {l:List Nd} (h:cR X w v l) (D:ae X w w'):cR X w' v l:=by obtain ⟨A,cap,xs,e,M,J,I⟩:=h;exact ⟨A,cap,xs,e,M,J.keep D.block,I.keep D.block⟩
theorem cR.mono {Y:Nat→Prop} {v:Value} {l:List Nd} (h:cR X w v l) (D:∀ b,X b→b<w.heap.size→Y b):cR Y w v l:=by obtain ⟨A,cap,xs,e,M,J,I⟩:=h;exact ⟨A,cap,xs,e,M,J.mono D (by omega),I.mono D⟩
theorem ac {g:Nat} {t:TypeId} {a b c d:Value} (h:aj w g t #[a,b,c,d]):w.cell? ⟨g,0,none⟩=some a∧w.cell? ⟨g,1,none⟩=some b∧w.cell? ⟨g,2,none⟩=some c∧w.cell? ⟨g,3,none⟩=some d ∧
  w.frozen? ⟨g,0,none⟩=false∧w.frozen? ⟨g,1,none⟩=false∧w.frozen? ⟨g,2,none⟩=false∧w.frozen? ⟨g,3,none⟩=false:=by have c0:=h.cell 0;have c1:=h.cell 1;have c2:=h.cell 2;have c3:=h.cell 3;simp at c0 c1 c2 c3;exact ⟨c0,c1,c2,c3,h.frozen 0,h.frozen 1,h.frozen 2,h.frozen 3⟩
end
def aV:Array Value:=#[.int .i64 0,.string ⟨#[]⟩,.slice none 0 0,.int .i64 0]
theorem dN {fn:Func} {q:Tmp} (I:fn.results = #[.cell q 24]) (tmps:Array Value) {w:World} {g:Nat} {a b c d:Value} (J:tmps.getD q undef=.pointer (some ⟨g,0,none⟩)) (hb:aj w g 24 #[a,b,c,d]) :
  (results fn tmps).run Tryz.prog w=.ok (.agg #[a,b,c,d]) w:=by obtain ⟨U,O,N,M,_,_,_,_⟩:=ac hb;unfold results;rw [I];(have D:tmps[q]?.getD undef=.pointer (some ⟨g,0,none⟩):=by simpa using J);simp [D,go_sem,U,O,N,M]
theorem yM (E:bN) (k:FuncId) (first cap:Array Value) (part:R Nd) (s:St) (w:World) (h:aD E w s)
  (hk:∀ a w,(callFunc k a).run Tryz.prog w=.ok (.enter k a) w) (hp:dZ E k (first++cap) part w) (O:bU part E.c s≠.out) :
  Calls Tryz.prog 133 #[.pointer (some ⟨E.R,0,none⟩),.func (.func k) first cap] w (iX E w (bU part E.c s)):=by
 generalize hres:bU part E.c s=res at *;have D:=hid hres;have HP:=hid hp;have gd:=hid O;obtain ⟨c0,c1,c2,c3,c4,f0⟩:=h.cells;have f3:=f0 3;have U:=h.lt;have ge:=Nat.ne_of_lt U;clear hres hp O f0;(go_enter Tryz.func133,Tryz.ntmps133);(go_wp2_with fail);have I:ar E { s with head:=false } w ((w.setCell ⟨E.R,3,none⟩ (.bool false)).alloc (.cells aV 24)):=((ar.refl h).setHead false).alloc _;(have gb:aj ((w.setCell ⟨E.R,3,none⟩ (.bool false)).alloc (.cells aV 24)) w.heap.size 24 aV:=by have:=aj.new (w.setCell ⟨E.R,3,none⟩ (.bool false)) 24 aV;simpa [World.setCell] using this);cases M:part E.c { s with head:=false } with
 | out=>exact absurd D.out.symm (by rw [bU,M];exact gd.out)
 | fail p=>have HF:=hid (show res=.fail p by rw [←D.out,bU,M];rfl);refine (HP.out _ _ I.gr I.rd (by rw [M];exact nofun)).mono ?_;rw [M];rintro e w2 ⟨rfl,z⟩;unfold ag;refine ⟨rfl,?_⟩;rw [HF.out];exact ⟨rfl,I.gr.trans z⟩
 | ok n s1=>
  have HF:=hid (show res=.ok n { s1 with head:=s.head } by rw [←D.out,bU,M];rfl);refine (HP.out _ _ I.gr I.rd (by rw [M];exact nofun)).mono ?_;rw [M];rintro e w2 ⟨⟨v,rfl,hv⟩,J⟩;obtain ⟨A,cp,rfl,hC⟩:=hv.toC;have N:=gb.grown J.gr (fun e=>by injection e with e;omega);obtain ⟨d0,d1,d2,d3,e0,e1,e2,e3⟩:=ac N;obtain ⟨x0,x1,x2,x3,x4,y0⟩:=J.rd.cells;have y3:=y0 3;have gh:=J.rd.lt;have gg:=N.lt;have q:=J.gr.size;have y:=I.trans J;simp only [World.size_alloc] at q;clear M D HP y0;(go_wp2_with fail);have ga:=((((N.far (p:=⟨E.R,3,none⟩) (by show w.heap.size≠E.R;omega) (.bool s.head)).set_ 0 (.int .i64 n.kind)).set_ 1 (.string n.text)).set_ 2 (.slice A n.kids.length cp)).set_ 3 (.int .i64 n.pos) |>.alloc (.cells (nv n A cp) 24);refine bodyPost_ret (dN rfl _ (by rfl) (by simpa [aV] using ga)) rfl ?_;rw [HF.out];refine ⟨⟨_,rfl,(hv.kept ?_).mono ?_⟩,?_⟩
  ·(repeat' (first | with_reducible exact ae.refl _ _ | with_reducible refine ae.alloc ?_ _ | with_reducible refine ae.setCell ?_ ?_ _ | with_reducible refine ae.drew ?_ | with_reducible refine ae.drewN ?_ _ | (intro hX;simp at hX;omega)))
  ·intro b hb _;simp at hb;omega
  ·have gi:=y.setHead s.head;(repeat' (first | with_reducible assumption | with_reducible refine ar.alloc ?_ _ | with_reducible refine ar.own ?_ ?_ ?_ _ | with_reducible refine ar.drew ?_ | with_reducible refine ar.drewN ?_ _ | (simp <;> omega) | omega))
theorem bP (E:bN) (k:FuncId) (first cap:Array Value) (part:R Nd) (s:St) (w:World) (h:aD E w s)
  (hk:∀ a w,(callFunc k a).run Tryz.prog w=.ok (.enter k a) w) (hp:dZ E k (first++cap) part w) (O:bG part E.c s≠.out) :
  Calls Tryz.prog 218 #[.pointer (some ⟨E.R,0,none⟩),.func (.func k) first cap] w (iX E w (bG part E.c s)):=by
 generalize hres:bG part E.c s=res at *;have D:=hid hres;have HP:=hid hp;have gd:=hid O;obtain ⟨c0,c1,c2,c3,c4,f0⟩:=h.cells;have f3:=f0 3;have U:=h.lt;have ge:=Nat.ne_of_lt U;clear hres hp O f0;(go_enter Tryz.func218,Tryz.ntmps218);(go_wp2_with fail);have I:ar E { s with head:=true } w ((w.setCell ⟨E.R,3,none⟩ (.bool true)).alloc (.cells aV 24)):=((ar.refl h).setHead true).alloc _;(have gb:aj ((w.setCell ⟨E.R,3,none⟩ (.bool true)).alloc (.cells aV 24)) w.heap.size 24 aV:=by have:=aj.new (w.setCell ⟨E.R,3,none⟩ (.bool true)) 24 aV;simpa [World.setCell] using this);cases M:part E.c { s with head:=true } with
 | out=>exact absurd D.out.symm (by rw [bG,M];exact gd.out)
 | fail p=>have HF:=hid (show res=.fail p by rw [←D.out,bG,M];rfl);refine (HP.out _ _ I.gr I.rd (by rw [M];exact nofun)).mono ?_;rw [M];rintro e w2 ⟨rfl,z⟩;unfold ag;refine ⟨rfl,?_⟩;rw [HF.out];exact ⟨rfl,I.gr.trans z⟩
 | ok n s1=>
  have HF:=hid (show res=.ok n { s1 with head:=s.head } by rw [←D.out,bG,M];rfl);refine (HP.out _ _ I.gr I.rd (by rw [M];exact nofun)).mono ?_;rw [M];rintro e w2 ⟨⟨v,rfl,hv⟩,J⟩;obtain ⟨A,cp,rfl,hC⟩:=hv.toC;have N:=gb.grown J.gr (fun e=>by injection e with e;omega);obtain ⟨d0,d1,d2,d3,e0,e1,e2,e3⟩:=ac N;obtain ⟨x0,x1,x2,x3,x4,y0⟩:=J.rd.cells;have y3:=y0 3;have gh:=J.rd.lt;have gg:=N.lt;have q:=J.gr.size;have y:=I.trans J;simp only [World.size_alloc] at q;clear M D HP y0;(go_wp2_with fail);have ga:=((((N.far (p:=⟨E.R,3,none⟩) (by show w.heap.size≠E.R;omega) (.bool s.head)).set_ 0 (.int .i64 n.kind)).set_ 1 (.string n.text)).set_ 2 (.slice A n.kids.length cp)).set_ 3 (.int .i64 n.pos) |>.alloc (.cells (nv n A cp) 24);refine bodyPost_ret (dN rfl _ (by rfl) (by simpa [aV] using ga)) rfl ?_;rw [HF.out];refine ⟨⟨_,rfl,(hv.kept ?_).mono ?_⟩,?_⟩
  ·(repeat' (first | with_reducible exact ae.refl _ _ | with_reducible refine ae.alloc ?_ _ | with_reducible refine ae.setCell ?_ ?_ _ | with_reducible refine ae.drew ?_ | with_reducible refine ae.drewN ?_ _ | (intro hX;simp at hX;omega)))
  ·intro b hb _;simp at hb;omega
  ·have gi:=y.setHead s.head;(repeat' (first | with_reducible assumption | with_reducible refine ar.alloc ?_ _ | with_reducible refine ar.own ?_ ?_ ?_ _ | with_reducible refine ar.drew ?_ | with_reducible refine ar.drewN ?_ _ | (simp <;> omega) | omega))
def ru (E:bN) (k:FuncId) (args:Array Value) (m:R (List Nd)) (w0:World):Prop:=
 ∀ (w:World) (s:St),w0.grownBy w (some E.R)→aD E w s→m E.c s≠.out→Calls Tryz.prog k args w (EH E w (m E.c s))
theorem fy (E:bN) (k:FuncId) (first cap:Array Value) (part:R (List Nd)) (s:St) (w:World) (h:aD E w s)
  (hk:∀ a w,(callFunc k a).run Tryz.prog w=.ok (.enter k a) w) (hp:ru E k (first++cap) part w) (M:bU part E.c s≠.out) :
  Calls Tryz.prog 185 #[.pointer (some ⟨E.R,0,none⟩),.func (.func k) first cap] w (EH E w (bU part E.c s)):=by
 generalize hres:bU part E.c s=res at *;have I:=hid hres;have y:=hid hp;have z:=hid M;obtain ⟨c0,c1,c2,c3,c4,f0⟩:=h.cells;have f3:=f0 3;clear hres hp M f0;(go_enter Tryz.func185,Tryz.ntmps185);(go_wp2_with fail);have D:=(ar.refl h).setHead false;cases J:part E.c { s with head:=false } with
 | out=>exact absurd I.out.symm (by rw [bU,J];exact z.out)
 | fail p=>have HF:=hid (show res=.fail p by rw [←I.out,bU,J];rfl);refine (y.out _ _ D.gr D.rd (by rw [J];exact nofun)).mono ?_;rw [J];rintro e w2 ⟨rfl,q⟩;unfold ag;refine ⟨rfl,?_⟩;rw [HF.out];exact ⟨rfl,D.gr.trans q⟩
 | ok n s1=>
  have HF:=hid (show res=.ok n { s1 with head:=s.head } by rw [←I.out,bU,J];rfl);refine (y.out _ _ D.gr D.rd (by rw [J];exact nofun)).mono ?_;rw [J];rintro e w2 ⟨⟨v,rfl,hv⟩,N⟩;obtain ⟨x0,x1,x2,x3,x4,y0⟩:=N.rd.cells;have y3:=y0 3;have U:=D.trans N;have ga:=h.lt;have O:=D.gr.size;clear J I y y0;(go_wp2_with fail);go_ret;rw [HF.out];refine ⟨⟨_,rfl,(hv.kept ?_).mono ?_⟩,?_⟩
  ·(repeat' (first | with_reducible exact ae.refl _ _ | with_reducible refine ae.alloc ?_ _ | with_reducible refine ae.setCell ?_ ?_ _ | with_reducible refine ae.drew ?_ | with_reducible refine ae.drewN ?_ _ | (intro hX;simp at hX;omega)))
  ·intro b hb _;exact Nat.le_trans O hb
  ·exact U.setHead s.head
def Mp (E:bN) (s:St) (b off:Nat) (k:Int) (x:ByteArray) (w:World):Prop:=
 w.cell? ⟨E.R,0,none⟩=some (.slice (some ⟨b,off,none⟩) E.c.toks.length E.cap)∧w.cell? ⟨E.R,1,none⟩=some (.int .i64 s.at_) ∧
 w.cell? ⟨b,off+(s.at_+1) * 3,none⟩=some (.int .i64 k)∧w.cell? ⟨b,off+(s.at_+1) * 3+1,none⟩=some (.string x)
theorem EJ {E:bN} {s:St} {w:World} (h:aD E w s) (D:s.at_+1<E.c.toks.length):∃ b off,∀ w',aD E w' s→Mp E s b off (am E.c (s.at_+1)).kind (am E.c (s.at_+1)).text w':=by obtain ⟨b,off,eA,hb,q,U,O⟩:=h.tok _ D;refine ⟨b,off,fun w' h'=>?_⟩;obtain ⟨c0,c1,_,_,_,_⟩:=h'.cells;obtain ⟨b',off',eA',N,J,I,M⟩:=h'.tok _ D;rw [eA] at eA' c0;injection eA' with e;injection e with e1 e2;subst e1 e2;exact ⟨c0,c1,J,I⟩
theorem ot (E:bN) (s:St) (w:World) (h:aD E w s):Calls Tryz.prog 126 #[.pointer (some ⟨E.R,0,none⟩)] w fun e w'=>e=.returned (.bool (dq E.c s))∧cw E s w w':=by
 have M:=hid (fun w' (h:aD E w' s)=>bo E s (⟨#[91]⟩:BA) w' h);have O:=h.most;have J:=cw.refl h;by_cases D:aE E.c s (⟨#[91]⟩:BA)=true
 ·have U:=nE h D;by_cases I:s.at_+1<E.c.toks.length
  ·obtain ⟨b,off,q⟩:=EJ h I;have N:=hid q;(have hs:dq E.c s=((am E.c (s.at_+1)).kind==6&&((am E.c (s.at_+1)).text.toList==(⟨#[93]⟩:BA).toList)):=by unfold dq;rw [D,List.getElem?_eq_getElem I,cU];unfold am;rw [List.getElem?_eq_getElem I];rfl);rw [hs];(have g1:decide ((s.at_:Int)+1<(E.c.toks.length:Int))=true:=by simp;omega);(have g2:(0:Int)≤(s.at_:Int)+1:=by omega);(have g3:(s.at_:Int)+1<(E.c.toks.length:Int):=by omega);have g4:IntKind.i64.wrap ((s.at_:Int)+1)=(s.at_:Int)+1:=IntWalk.i64_in _ (by omega);(have g5:((s.at_:Int)+1).toNat=s.at_+1:=by omega);rw [D] at M;clear hs q D;generalize am E.c (s.at_+1)=t at *;obtain ⟨tk,tt,tp⟩:=t;simp only at *;have k0:∀ n:Wd (cw E s w),n.wd.cell? ⟨E.R,0,none⟩=some (.slice (some ⟨b,off,none⟩) E.c.toks.length E.cap):=fun n=>(N.out _ n.ok.rd).1;have z:∀ n:Wd (cw E s w),n.wd.cell? ⟨E.R,1,none⟩=some (.int .i64 s.at_):=fun n=>(N.out _ n.ok.rd).2.1;have k2:∀ n:Wd (cw E s w),n.wd.cell? ⟨b,off+(s.at_+1) * 3,none⟩=some (.int .i64 tk):=fun n=>(N.out _ n.ok.rd).2.2.1;have k3:∀ n:Wd (cw E s w),n.wd.cell? ⟨b,off+(s.at_+1) * 3+1,none⟩=some (.string tt):=fun n=>(N.out _ n.ok.rd).2.2.2;(have y:(⟨#[93]⟩:BA).toList=[93]:=by decide +kernel);rw [y];cases h1:(tk==6) <;> cases h2:(tt.toList==[93]);all_goals
    (go_enter Tryz.func126,Tryz.ntmps126);(go_wp2_with fail);haveI:Nonempty (Wd (cw E s w)):=⟨⟨w,J⟩⟩
    refine aw (cw E s w) (by kernel_rfl) (by kernel_rfl) J.drew ?_;(repeat (go_big_quiet_step ((go_at_call 42;rename_i n;refine (M.out _ n.ok.rd).mono ?_;rintro e w' ⟨rfl,hb⟩;exact ⟨rfl,⟨w',n.ok.step hb⟩,rfl⟩))));refine wpQuiet_nil ?_;intro n;(go_wp2_with fail);go_ret;exact ⟨rfl,n.ok⟩
  ·(have hs:dq E.c s=false:=by unfold dq;rw [D,List.getElem?_eq_none (by omega)];rfl);rw [hs];(have g1:decide ((s.at_:Int)+1<(E.c.toks.length:Int))=false:=by simp;omega);have g4:IntKind.i64.wrap ((s.at_:Int)+1)=(s.at_:Int)+1:=IntWalk.i64_in _ (by omega);have k0:∀ n:Wd (cw E s w),n.wd.cell? ⟨E.R,0,none⟩=some (.slice E.A E.c.toks.length E.cap):=fun n=>n.ok.rd.cells.1;have z:∀ n:Wd (cw E s w),n.wd.cell? ⟨E.R,1,none⟩=some (.int .i64 s.at_):=fun n=>n.ok.rd.cells.2.1;rw [D] at M;clear hs D
   ·(go_enter Tryz.func126,Tryz.ntmps126);(go_wp2_with fail);haveI:Nonempty (Wd (cw E s w)):=⟨⟨w,J⟩⟩
    refine aw (cw E s w) (by kernel_rfl) (by kernel_rfl) J.drew ?_;(repeat (go_big_quiet_step ((go_at_call 42;rename_i n;refine (M.out _ n.ok.rd).mono ?_;rintro e w' ⟨rfl,hb⟩;exact ⟨rfl,⟨w',n.ok.step hb⟩,rfl⟩))));refine wpQuiet_nil ?_;intro n;(go_wp2_with fail);go_ret;exact ⟨rfl,n.ok⟩
 ·(have hs:dq E.c s=false:=by unfold dq;simp [D]);rw [hs];rw [show aE E.c s (⟨#[91]⟩:BA)=false by simpa using D] at M;clear hs D
  ·go_enter Tryz.func126,Tryz.ntmps126
   ·(go_wp2_with fail);haveI:Nonempty (Wd (cw E s w)):=⟨⟨w,J⟩⟩
    refine aw (cw E s w) (by kernel_rfl) (by kernel_rfl) J.drew ?_;(repeat (go_big_quiet_step ((go_at_call 42;rename_i n;refine (M.out _ n.ok.rd).mono ?_;rintro e w' ⟨rfl,hb⟩;exact ⟨rfl,⟨w',n.ok.step hb⟩,rfl⟩))));refine wpQuiet_nil ?_;intro n;(go_wp2_with fail);go_ret;exact ⟨rfl,n.ok⟩
end
section
open Go.RowKit Go.Lib Go.Proofs
def dC (E:bN) (m:R Nd) (f:FuncId):Prop:=
 ∀ (w:World) (s:St),aD E w s→m E.c s≠.out→Calls Tryz.prog f #[.pointer (some ⟨E.R,0,none⟩)] w (iX E w (m E.c s))
structure mA (E:bN) (F:eB):Prop where
 typ:dC E F.typ 131
 expr:dC E F.expr 41
 unary:dC E F.unary 92
 stmt:dC E F.stmt 135
 ifS:dC E F.ifS 181
 g:F.g≤1000000
theorem dC.part {E:bN} {m:R Nd} {f:FuncId} (h:dC E m f) (w0:World):dZ E f #[.pointer (some ⟨E.R,0,none⟩)] m w0:=fun w s _ hr hm=>h w s hr hm
theorem av.make {X:Nat→Prop} {wj w2:World} {l:List Nd} {xs:List Value} (k:Nat) (M:l.length=k) (J:ak X wj l xs) (kind:Int) (t:ByteArray) (pos:Int)
  (hb:Below (wj.alloc (.cells xs.toArray 24)).heap.size (wj.alloc (.cells xs.toArray 24)) w2) :
  av (fun b=>(X b∧b<wj.heap.size)∨b=wj.heap.size) w2 (.agg #[.int .i64 kind,.string t,.slice (some ⟨wj.heap.size,0,none⟩) k k,.int .i64 pos]) (.mk kind t l pos):=by
 subst M;have I:aj w2 wj.heap.size 24 xs.toArray:=(aj.new wj 24 xs.toArray).below hb (by simp);refine ⟨some ⟨wj.heap.size,0,none⟩,l.length,xs,rfl,Nat.le_refl _,⟨J.len,fun _=>⟨wj.heap.size,0,rfl,.inr rfl,fun j u hu=>?_⟩⟩,?_⟩
 ·have:=I.cell (0+j);rw [this,Nat.zero_add];simpa using hu
 ·refine ((J.mono (Y:=fun b=>X b∧b<wj.heap.size) fun b hb D=>⟨hb,D⟩).keep (w':=w2) fun b hx D=>?_).mono fun b hb _=>.inl hb;exact (hb.block b (by simp;omega)).trans (Below.heap_alloc wj _ b D)
theorem av.leaf {X:Nat→Prop} {w:World} (kind:Int) (t:ByteArray) (pos:Int):av X w (.agg #[.int .i64 kind,.string t,.slice none 0 0,.int .i64 pos]) (.mk kind t [] pos):=
 ⟨none,0,[],rfl,Nat.le_refl _,⟨rfl,fun h=>absurd h (by simp)⟩,ak.nil⟩
theorem av.of_slice {X:Nat→Prop} {w:World} {v:Value} {l:List Nd} (h:cR X w v l) (kind:Int) (t:ByteArray) (pos:Int):av X w (.agg #[.int .i64 kind,.string t,v,.int .i64 pos]) (.mk kind t l pos):=by obtain ⟨A,cap,xs,rfl,J,I,D⟩:=h;exact ⟨A,cap,xs,rfl,J,I,D⟩
theorem cell_kept {w w':World} (hb:Below w.heap.size w w') {a:Addr} {v:Value} (hc:w.cell? a=some v):w'.cell? a=some v:=(hb.cell (World.block_lt_of_cell? w a hc)).trans hc
abbrev lT (a0 a1 a2 a3 a4:Addr) (v0 v1 v2 v3 v4:Value) (w:World):Prop:=w.cell? a0=some v0∧w.cell? a1=some v1∧w.cell? a2=some v2∧w.cell? a3=some v3∧w.cell? a4=some v4
section
variable {a0 a1 a2 a3 a4:Addr} {v0 v1 v2 v3 v4:Value} {w w':World}
theorem lT.below (h:lT a0 a1 a2 a3 a4 v0 v1 v2 v3 v4 w) (hb:Below w.heap.size w w'):lT a0 a1 a2 a3 a4 v0 v1 v2 v3 v4 w':=
 ⟨cell_kept hb h.1,cell_kept hb h.2.1,cell_kept hb h.2.2.1,cell_kept hb h.2.2.2.1,cell_kept hb h.2.2.2.2⟩
theorem lT.drew (h:lT a0 a1 a2 a3 a4 v0 v1 v2 v3 v4 w):lT a0 a1 a2 a3 a4 v0 v1 v2 v3 v4 w.drew:=h.below (Below.refl _ _).drew
theorem lT.alloc (h:lT a0 a1 a2 a3 a4 v0 v1 v2 v3 v4 w) (o:Obj):lT a0 a1 a2 a3 a4 v0 v1 v2 v3 v4 (w.alloc o):=h.below ((Below.refl _ _).alloc (Nat.le_refl _) o)
theorem lT.far (h:lT a0 a1 a2 a3 a4 v0 v1 v2 v3 v4 w) {p:Addr} (u:Value) (N:a0.block≠p.block) (M:a1.block≠p.block) (J:a2.block≠p.block) (I:a3.block≠p.block) (D:a4.block≠p.block):lT a0 a1 a2 a3 a4 v0 v1 v2 v3 v4 (w.setCell p u):=
 have k:∀ (a:Addr) (v:Value),w.cell? a=some v→a.block≠p.block→(w.setCell p u).cell? a=some v:=fun a _ hc hn=>(World.cell?_of_block (Below.heap_setCell w p u a.block hn)).trans hc
 ⟨k _ _ h.1 N,k _ _ h.2.1 M,k _ _ h.2.2.1 J,k _ _ h.2.2.2.1 I,k _ _ h.2.2.2.2 D⟩
theorem lT.put (h:lT a0 a1 a2 a3 a4 v0 v1 v2 v3 v4 w) (g:Nat) (N:a0.block≠g) (M:a1.block≠g) (J:a2.block≠g) (I:a3.block≠g) (D:a4.block≠g) (a b c d:Value) :
  lT a0 a1 a2 a3 a4 v0 v1 v2 v3 v4 ((((w.setCell ⟨g,0,none⟩ a).setCell ⟨g,1,none⟩ b).setCell ⟨g,2,none⟩ c).setCell ⟨g,3,none⟩ d):=
 (((h.far (p:=⟨g,0,none⟩) a N M J I D).far (p:=⟨g,1,none⟩) b N M J I D).far (p:=⟨g,2,none⟩) c N M J I D).far (p:=⟨g,3,none⟩) d N M J I D
theorem lT.grown {R:Nat} (h:lT a0 a1 a2 a3 a4 v0 v1 v2 v3 v4 w) (D:w.grownBy w' (some R)) (O:a0.block≠R) (N:a1.block≠R) (M:a2.block≠R) (J:a3.block≠R) (I:a4.block≠R):lT a0 a1 a2 a3 a4 v0 v1 v2 v3 v4 w':=
 have k:∀ (a:Addr) (v:Value),w.cell? a=some v→a.block≠R→w'.cell? a=some v:=fun a _ hc hn=>
  (World.cell?_of_block (D.block a.block (World.block_lt_of_cell? w a hc) (fun e=>hn (by injection e)))).trans hc
 ⟨k _ _ h.1 O,k _ _ h.2.1 N,k _ _ h.2.2.1 M,k _ _ h.2.2.2.1 J,k _ _ h.2.2.2.2 I⟩
end
def bu (w:World) (g:Nat) (a b c d:Value):World:=(((w.setCell ⟨g,0,none⟩ a).setCell ⟨g,1,none⟩ b).setCell ⟨g,2,none⟩ c).setCell ⟨g,3,none⟩ d
theorem br {w:World} {g:Nat} {z0 z1 z2 z3:Value} (h:aj w g 24 #[z0,z1,z2,z3]) (a b c d:Value):aj (bu w g a b c d) g 24 #[a,b,c,d]:=by unfold bu;have:=(((h.set_ 0 a).set_ 1 b).set_ 2 c).set_ 3 d;simpa using this
theorem bW {E:bN} {s:St} {w wk:World} {g:Nat} (h:ar E s w wk) (D:w.heap.size≤g) (I:E.R<g) (a b c d:Value):ar E s w (bu wk g a b c d):=
 (((h.own (p:=⟨g,0,none⟩) D I a).own (p:=⟨g,1,none⟩) D I b).own (p:=⟨g,2,none⟩) D I c).own (p:=⟨g,3,none⟩) D I d
theorem bK {X:Nat→Prop} {wk:World} {g:Nat} (D:∀ b,X b→b≠g) (a b c d:Value):ae X wk (bu wk g a b c d):=
 ((((ae.refl X wk).setCell (p:=⟨g,0,none⟩) (fun h=>D g h rfl) a).setCell (p:=⟨g,1,none⟩) (fun h=>D g h rfl) b).setCell (p:=⟨g,2,none⟩) (fun h=>D g h rfl) c).setCell (p:=⟨g,3,none⟩) (fun h=>D g h rfl) d
theorem au {E:bN} {w wk:World} {res:cZ Nd} {n:Nd} {s:St} {X:Nat→Prop} {a0 a1 a2 a3 z0 z1 z2 z3:Value} {g q:Nat} {fn:Func} {a:Act} (N:res=.ok n s)
  (J:av X wk (.agg #[a0,a1,a2,a3]) n) (O:ar E s w wk) (hb:aj wk g 24 #[z0,z1,z2,z3]) (U:w.heap.size≤g) (h:E.R<g) (I:∀ b,X b→w.heap.size≤b∧b≠g)
  (D:fn.results = #[.cell q 24]) (M:a.tmps.getD q undef=.pointer (some ⟨g,0,none⟩)) (hd:a.defers=[]) :
  bodyPost Tryz.prog fn (iX E w res) .ret a (bu wk g a0 a1 a2 a3):=by refine bodyPost_ret (dN D _ M (br hb a0 a1 a2 a3)) hd ?_;rw [N];exact ⟨⟨_,rfl,(J.kept (bK (fun b hb=>(I b hb).2) _ _ _ _)).mono fun b hb _=>(I b hb).1⟩,bW O U h _ _ _ _⟩
theorem af {E:bN} {w w1 w2:World} {res:cZ Nd} {p:Int} (D:res=.fail p) (J:w.grownBy w1 (some E.R)) (I:w1.grownBy w2 (some E.R)):iX E w res (ag p) w2:=by rw [D];exact ⟨rfl,J.trans I⟩
end
end Go.Proofs.YtiebcdeafofgdaaGreatDoor

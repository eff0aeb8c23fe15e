/-
  Parts of the proof: Uname2 Usmall Usig Udepth Utyp Uinter Ufields. By an AI agent.
-/
import Derived.Test.YtiebcdeafofgdaaGreatDoorL06
import Derived.Test.YtiebcdeafofgdaaGreatDoorL04
set_option maxRecDepth 100000
set_option maxHeartbeats 8000000
namespace Go.Proofs.YtiebcdeafofgdaaGreatDoor
section
open Go.RowKit Go.Lib Go.Proofs
attribute [local go_sem ↓] Go.wp_at_zero Go.wp_at_succ
def bO (s:ByteArray) (i:Nat):Nat:=(s.data.toList.getD i 0).toNat
theorem i9 (s:ByteArray) (i:Nat) (D:i<s.size) (W:World):(Instr.index 9 (.string s) (.int .i64 (i:Int))).run Tryz.prog W=.ok (.int .u8 (bO s i:Int)) W:=by rw [run_index_string (P:=Tryz.prog) W 9 s .i64 (i:Int) Tryz.underlying9];simp [bO,D];rfl
theorem rv {c:Int} (h:aA c=true):ao c=false:=by unfold aA at h;unfold ao;simp at h ⊢;omega
theorem ry (s:ByteArray) (M:0<s.size):bL s.data.toList=true↔ao (bO s 0:Int)=false∧∀ j,j<s.size→(aA (bO s j:Int)||ao (bO s j:Int))=true:=by
 rw [mC];constructor
 ·intro h;have K:=h 0 (by simpa using M);refine ⟨rv (by simpa [bO] using K),fun j hj=>?_⟩;have D:=h j (by simpa using hj);rw [Bool.or_eq_true] at D ⊢;rcases D with D | D
  ·exact .inl D
  ·rw [Bool.and_eq_true] at D;exact .inr D.2
 ·rintro ⟨K,D⟩ j hj;have I:=D j (by simpa using hj);rw [Bool.or_eq_true] at I ⊢;rcases I with I | I
  ·exact .inl I
  ·rcases Nat.eq_zero_or_pos j with rfl | J
   ·rw [K] at I;cases I
   ·exact .inr (by rw [Bool.and_eq_true,decide_eq_true_iff];exact ⟨J,I⟩)
theorem Bb (s:ByteArray) (hs:s.size≤100) (w:World):Calls Tryz.prog 44 #[.string s] w fun e w'=>e=.returned (.bool (cz s))∧Below w.heap.size w w':=by
 have HW:=hid (fun w=>Ba s w);by_cases u:s=⟨#[]⟩
 ·subst u;(go_enter Tryz.func44,Tryz.ntmps44);(go_wp2_with fail);go_ret;exact ⟨by kernel_rfl,Below.refl _ _⟩
 ·have K:0<s.size:=by
   rcases Nat.eq_zero_or_pos s.size with h | h
   ·exact absurd (by apply ByteArray.ext;exact Array.eq_empty_of_size_eq_zero h) u
   ·exact h
  (have gg:(s.toList==[])=false:=by have:=cU s ⟨#[]⟩;rw [show (⟨#[]⟩:BA).toList=[] by rw [ByteArray.toList_eq]] at this;rw [this];simpa using u);(have gd:s.toList.isEmpty=false:=by rw [af];simpa using u);have HT:=hid (show cz s=(bL s.data.toList&&decide (aX s=0)) by unfold cz;rw [decide_eq_true (show s≠⟨#[]⟩ from u),Bool.true_and]);have HN:=hid (ry s K);have i0:=fun W=>i9 s 0 K W;simp only [Int.natCast_zero] at i0;have F0:=hid (fun w=>l7 (bO s 0:Int) w);clear u;cases M:ao (bO s 0:Int) with
  | true=>
   have HR:=hid (show cz s=false by
    rw [HT.out];cases hn:bL s.data.toList with
    | false=>rfl
    | true=>rw [(HN.out.1 hn).1] at M;cases M)
   rw [M] at F0;clear M;(go_enter Tryz.func44,Tryz.ntmps44);(go_wp2_with fail);refine (F0.out _).mono ?_;rintro e w1 ⟨rfl,rfl⟩;(go_wp2_with fail);go_ret;exact ⟨by rw [HR.out];rfl,Below.refl _ _⟩
  | false=>
   rw [M] at F0;by_cases U:aX s=0
   ·have HF:=hid M;clear M;rw [U] at HW;have HR:=hid (show cz s=bL s.data.toList by rw [HT.out,U];simp);clear U;(go_enter Tryz.func44,Tryz.ntmps44);(go_wp2_with fail);refine (F0.out _).mono ?_;rintro e w1 ⟨rfl,rfl⟩;(go_wp2_with fail);refine (HW.out _).mono ?_;rintro e w1 ⟨rfl,J⟩;(go_wp2_with fail);go_loopg [3] s.size (fun k u3 wr=>∃ i:Nat,i≤s.size∧s.size-i≤k∧u3=.int .i64 (i:Int)∧w1=wr∧∀ j,j<i→(aA (bO s j:Int)||ao (bO s j:Int))=true)
    case atStart=>exact ⟨0,Nat.zero_le _,by omega,rfl,rfl,fun j hj=>by omega⟩
    case round=>
     obtain ⟨i,hi,hk,rfl,rfl,N⟩:=hrel;have HA:=hid N;clear N i0;by_cases gb:i<s.size
     ·(have ga:(i:Int)<(s.size:Int):=by omega);have hb:=fun W=>i9 s i gb W;have I:=hid (show (aA (bO s i:Int)||ao (bO s i:Int))=true→∀ j,j<i+1→(aA (bO s j:Int)||ao (bO s j:Int))=true by
       intro h j hj;by_cases e:j=i
       ·subst e;exact h
       ·exact HA.out j (by omega))
      have D:=hid (show (aA (bO s i:Int)||ao (bO s i:Int))=false→cz s=false by
       intro h;rw [HR.out];cases hn:bL s.data.toList with
       | false=>rfl
       | true=>rw [(HN.out.1 hn).2 i gb] at h;cases h)
      generalize bO s i=c at *;cases q:aA (c:Int) with
      | true=>
       have O:=hid (I.out (by rw [q];rfl));clear I D;(go_wp2_with fail);refine (l6 _ _).mono ?_;rw [q];rintro e w2 ⟨rfl,rfl⟩;(go_wp2_with fail);go_roundg (s.size-(i+1))
       case measure=>omega
       case rel=>exact ⟨i+1,by omega,Nat.le_refl _,by go_num,rfl,O.out⟩
      | false=>
       cases hG:ao (c:Int) with
       | true=>
        have O:=hid (I.out (by rw [q,hG];rfl));clear I D;(go_wp2_with fail);refine (l6 _ _).mono ?_;rw [q];rintro e w2 ⟨rfl,rfl⟩;(go_wp2_with fail);refine (l7 _ _).mono ?_;rw [hG];rintro e w2 ⟨rfl,rfl⟩;(go_wp2_with fail);go_roundg (s.size-(i+1))
        case measure=>omega
        case rel=>exact ⟨i+1,by omega,Nat.le_refl _,by go_num,rfl,O.out⟩
       | false=>have O:=hid (D.out (by rw [q,hG];rfl));clear I D;(go_wp2_with fail);refine (l6 _ _).mono ?_;rw [q];rintro e w2 ⟨rfl,rfl⟩;(go_wp2_with fail);refine (l7 _ _).mono ?_;rw [hG];rintro e w2 ⟨rfl,rfl⟩;(go_wp2_with fail);go_ret;exact ⟨by rw [O.out];rfl,J⟩
     ·(have ga:¬ (i:Int)<(s.size:Int):=by omega);have O:=hid (show cz s=true by rw [HR.out];exact HN.out.2 ⟨HF.out,fun j hj=>HA.out j (by omega)⟩);(go_wp2_with fail);go_ret;exact ⟨by rw [O.out];rfl,J⟩
   ·have HR:=hid (show cz s=false by rw [HT.out,decide_eq_false U,Bool.and_false]);(have ge:(aX s != 0)=true:=by simpa using U);clear U M;(go_enter Tryz.func44,Tryz.ntmps44);(go_wp2_with fail);refine (F0.out _).mono ?_;rintro e w1 ⟨rfl,rfl⟩;(go_wp2_with fail);refine (HW.out _).mono ?_;rintro e w1 ⟨rfl,J⟩;(go_wp2_with fail);go_ret;exact ⟨by rw [HR.out];rfl,J⟩
theorem aB (s:ByteArray) (w:World):Calls Tryz.prog 23 #[.string s] w fun e w'=>e=.returned (.bool (aw s))∧Below w.heap.size w w':=by
 by_cases h:s.size≤100
 ·have I:=hid (Bb s h w);(have hd:decide ((s.size:Int)≤100)=true:=by rw [decide_eq_true_iff];omega);have D:=hid (show aw s=cz s by unfold aw;rw [decide_eq_true h,Bool.true_and]);(go_enter Tryz.func23,Tryz.ntmps23);(go_wp2_with fail);refine (I.out).mono ?_;rintro e w1 ⟨rfl,hB⟩;(go_wp2_with fail);go_ret;exact ⟨by rw [D.out];rfl,hB⟩
 ·(have hd:decide ((s.size:Int)≤100)=false:=by rw [decide_eq_false_iff_not];omega);have D:=hid (show aw s=false by unfold aw;rw [decide_eq_false h,Bool.false_and]);(go_enter Tryz.func23,Tryz.ntmps23);(go_wp2_with fail);go_ret;exact ⟨by rw [D.out];rfl,Below.refl _ _⟩
theorem lx (s:ByteArray) (w:World):Calls Tryz.prog 52 #[.string s] w fun e w'=>e=.returned (.bool (bA s))∧Below w.heap.size w w':=by have J:=hid (aB s w);have I:=hid (show bA s=(aw s && !(s.toList==[95])) by unfold bA;rw [←bq s [95]];simp);cases D:aw s <;> cases K:(s.toList==[95]);all_goals rw [D] at J;rw [D,K] at I;clear D;(go_enter Tryz.func52,Tryz.ntmps52);(go_wp2_with fail);refine (J.out).mono ?_;rintro e w1 ⟨rfl,hB⟩;(go_wp2_with fail);go_ret;exact ⟨by rw [I.out];rfl,hB⟩
theorem cT (v:Value) (n:Nd) (w:World) (D:ax w v n):Calls Tryz.prog 53 #[v] w fun e w'=>e=.returned (.bool (ag n))∧Below w.heap.size w w':=by obtain ⟨A,cp,rfl,J⟩:=D.toC;have hB:=(ae w #[.int .i64 n.kind,.string n.text,.slice A n.kids.length cp,.int .i64 n.pos]).1;have I:=hid (show ag n=((n.kind==0)&&(n.text.toList.isEmpty&&((n.kids.length:Int)==0))) by unfold ag;rw [af,dU,dU];congr 2;rw [decide_eq_decide];omega);clear D J;generalize n.kids.length=m at *;cases N:(n.kind==0) <;> cases M:n.text.toList.isEmpty <;> cases K:((m:Int)==0);all_goals rw [N,M,K] at I;(go_enter Tryz.func53,Tryz.ntmps53);(go_wp2_with fail);go_ret;exact ⟨by rw [I.out];rfl,hB⟩
def nZ (d:Nat) (f:FuncId) (P:Nd→Bool):Prop:=∀ (v:Value) (n:Nd) (w:World),ax w v n→cq d n→Calls Tryz.prog f #[v] w fun e w'=>e=.returned (.bool (P n))∧Below w.heap.size w w'
theorem Bc (F:bj) (so:ByteArray→Bool) (p:Nd):dI F so p=(decide (p.kind=8)&&((match p.kids with | [x]=>F.typ x | _=>false)&&so p.text)):=by
 obtain ⟨k,t,l,a⟩:=p;unfold dI;rw [show aq so (.mk k t l a)=if so t=true then .mk k (⟨#[]⟩:BA) l a else .mk 37 (⟨#[]⟩:BA) [] 0 from rfl];by_cases hs:so t=true
 ·rw [if_pos hs];unfold bQ;rcases l with _ | ⟨x,_ | ⟨y,l⟩⟩ <;> simp [hs,aH] <;> rfl
 ·rw [if_neg hs];rw [Bool.not_eq_true] at hs;simp [hs,bQ]
theorem EU (F:bj) (so:ByteArray→Bool) (n:Nd):ep F so n=(decide (n.kind=12)&&(decide (n.text=(⟨#[]⟩:BA))&&(match n.kids with | [a,b]=>decide (a.kind=6)&&(decide (a.text=(⟨#[]⟩:BA))&&((ag b||F.typ b)&&a.kids.all (dI F so))) | _=>false))):=by
 obtain ⟨k,t,l,p⟩:=n;unfold ep bQ;simp only [Nd.text_mk,Nd.kind_mk,Nd.kids_mk];congr 2;rcases l with _ | ⟨a,_ | ⟨b,_ | ⟨c,l⟩⟩⟩
 ·rfl
 ·simp [aH]
 ·simp only [aH,eP,bI,Bool.and_true];rw [Bool.and_assoc,Bool.and_assoc,Bool.and_comm (x:=a.kids.all _)]
 ·simp [aH]
def C4 (w:World) (b o:Nat) (x:Nd) (A:Option Addr) (c:Nat):Prop:=
 w.cell? ⟨b,o,none⟩=some (.int .i64 x.kind)∧w.cell? ⟨b,o+1,none⟩=some (.string x.text)∧w.cell? ⟨b,o+2,none⟩=some (.slice A x.kids.length c)∧w.cell? ⟨b,o+3,none⟩=some (.int .i64 x.pos) ∧
  ax w (.agg #[.int .i64 x.kind,.string x.text,.slice A x.kids.length c,.int .i64 x.pos]) x
theorem C4.below {w w':World} {b o:Nat} {x:Nd} {A:Option Addr} {c:Nat} (h:C4 w b o x A c) (hb:Below w.heap.size w w'):C4 w' b o x A c:=by obtain ⟨K,J,I,D,M⟩:=h;exact ⟨(hb.cell (World.block_lt_of_cell? w _ K)).trans K,(hb.cell (World.block_lt_of_cell? w _ J)).trans J,(hb.cell (World.block_lt_of_cell? w _ I)).trans I,(hb.cell (World.block_lt_of_cell? w _ D)).trans D,ai.below M hb⟩
theorem aU {w:World} {A:Option Addr} {k p:Int} {t:ByteArray} {m cp:Nat} {n:Nd} (h:ax w (.agg #[.int .i64 k,.string t,.slice A m cp,.int .i64 p]) n) (i:Nat) (J:i<n.kids.length) :
  ∃ b off I D,A=some ⟨b,off,none⟩∧C4 w b (off+i * 4) n.kids[i] I D:=by obtain ⟨b,off,I,D,e,_,_,U,O,N,M,K⟩:=(ai.kidsV h).kid i J;exact ⟨b,off,I,D,e,U,O,N,M,K⟩
theorem cq.kid' {g:Nat} {n k:Nd} (h:cq g n) (D:k∈n.kids):cq g k:=by
 cases g with
 | zero=>exact h.elim
 | succ g=>exact (h.kid D).succ
def cg (b:Bool):ByteArray→Bool:=if b then aw else dL
theorem pG (d:Nat) (HT:nZ d 25 (aa d).typ) (names:Bool) (v:Value) (n:Nd) (w:World) (hv:ax w v n) (hd:cq (d+1) n) :
  Calls Tryz.prog 28 #[v,.bool names] w fun e w'=>e=.returned (.bool (ep (aa d) (cg names) n))∧Below w.heap.size w w':=by
 obtain ⟨A,cp,rfl,hC⟩:=hv.toC;have HR:=hid (EU (aa d) (cg names) n);have hB:=(ae w #[.int .i64 n.kind,.string n.text,.slice A n.kids.length cp,.int .i64 n.pos]).1;have HV:=hid hv;have HD:=hid hd;have gs:=hid HT;have gz:=hd.1.1;clear hv hC hd HT;obtain ⟨nk,nt,nl,np⟩:=n;simp only [Nd.kind_mk,Nd.text_mk,Nd.kids_mk,Nd.pos_mk] at *;by_cases h1:nk=12
 rotate_left
 ·(have j:(nk != 12)=true:=by simpa using h1);have J:=hid (show ep (aa d) (cg names) (.mk nk nt nl np)=false by rw [HR.out];simp [h1]);clear HR h1;(go_enter Tryz.func28,Tryz.ntmps28);(go_wp2_with fail);go_ret;exact ⟨by rw [J.out];rfl,hB⟩
 subst h1;by_cases h2:nt=⟨#[]⟩
 rotate_left
 ·(have j:nt.toList.isEmpty=false:=by rw [af];simpa using h2);have J:=hid (show ep (aa d) (cg names) (.mk 12 nt nl np)=false by rw [HR.out];simp [h2]);clear HR h2;(go_enter Tryz.func28,Tryz.ntmps28);(go_wp2_with fail);go_ret;exact ⟨by rw [J.out];rfl,hB⟩
 subst h2;by_cases h3:nl.length=2
 rotate_left
 ·(have j:((nl.length:Int) != 2)=true:=by simp;omega);have J:=hid (show ep (aa d) (cg names) (.mk 12 ⟨#[]⟩ nl np)=false by
   rw [HR.out];rcases nl with _ | ⟨a,_ | ⟨b,_ | ⟨c,l⟩⟩⟩
   ·simp
   ·simp
   ·exact absurd rfl h3
   ·simp)
  clear HR h3;generalize nl.length=m at *;(go_enter Tryz.func28,Tryz.ntmps28);(go_wp2_with fail);go_ret;exact ⟨by rw [J.out];rfl,hB⟩
 obtain ⟨a,b,rfl⟩:∃ a b,nl=[a,b]:=by
  rcases nl with _ | ⟨a,_ | ⟨b,_ | ⟨c,l⟩⟩⟩
  ·simp at h3
  ·simp at h3
  ·exact ⟨a,b,rfl⟩
  ·simp at h3
 clear h3;have gn:=hid (show cq d a from HD.out.kid (k:=a) (by simp));have gx:=hid (show cq d b from HD.out.kid (k:=b) (by simp));have hB:Below w.heap.size w (w.alloc (.cells #[.int .i64 12,.string ⟨#[]⟩,.slice A 2 cp,.int .i64 np] 24)):=hB;have gm:ax w (.agg #[.int .i64 12,.string ⟨#[]⟩,.slice A 2 cp,.int .i64 np]) (.mk 12 ⟨#[]⟩ [a,b] np):=HV.out;have gl:ar (w.alloc (.cells #[.int .i64 12,.string ⟨#[]⟩,.slice A 2 cp,.int .i64 np] 24)) w.heap.size 24 #[.int .i64 12,.string ⟨#[]⟩,.slice A 2 cp,.int .i64 np]:=ar.new w _ _;obtain ⟨bk,off,A0,c0,rfl,ha⟩:=aU gm 0 (by simp);obtain ⟨bk',off',A1,c1,e,hb⟩:=aU gm 1 (by simp);injection e with e;injection e with e1 e2;subst e1 e2;simp only [Nd.kids_mk,List.getElem_cons_zero,List.getElem_cons_succ,Nat.zero_mul,Nat.add_zero,Nat.one_mul] at ha hb;have gp:=hid ha;have ga:=hid hb;obtain ⟨a0,a1,a2,a3,-⟩:=ha.below hB;obtain ⟨b0,b1,b2,b3,-⟩:=hb.below hB;clear HV gm HD ha hb;obtain ⟨ak,atx,al,ap⟩:=a;simp only [Nd.kind_mk,Nd.text_mk,Nd.kids_mk,Nd.pos_mk] at *;by_cases h4:ak=6
 rotate_left
 ·(have j:(ak != 6)=true:=by simpa using h4);have J:=hid (show ep (aa d) (cg names) (.mk 12 ⟨#[]⟩ [.mk ak atx al ap,b] np)=false by rw [HR.out];simp [h4]);clear HR h4;(go_enter Tryz.func28,Tryz.ntmps28);(go_wp2_with fail);go_ret;exact ⟨by rw [J.out];rfl,hB⟩
 subst h4;by_cases h5:atx=⟨#[]⟩
 rotate_left
 ·(have j:atx.toList.isEmpty=false:=by rw [af];simpa using h5);have J:=hid (show ep (aa d) (cg names) (.mk 12 ⟨#[]⟩ [.mk 6 atx al ap,b] np)=false by rw [HR.out];simp [h5]);clear HR h5;(go_enter Tryz.func28,Tryz.ntmps28);(go_wp2_with fail);go_ret;exact ⟨by rw [J.out];rfl,hB⟩
 subst h5;have gg:=hid (fun w' (h:C4 w' bk (off+4) b A1 c1)=>cT _ b w' h.2.2.2.2);have ge:=hid (fun w' (h:C4 w' bk (off+4) b A1 c1)=>gs.out _ b w' h.2.2.2.2 gx.out);by_cases h6:(ag b||(aa d).typ b)=true
 rotate_left
 ·have J:=hid (show ep (aa d) (cg names) (.mk 12 ⟨#[]⟩ [.mk 6 ⟨#[]⟩ al ap,b] np)=false by rw [Bool.not_eq_true] at h6;rw [HR.out];simp [h6]);simp only [Bool.or_eq_true,not_or,Bool.not_eq_true] at h6;obtain ⟨g1,g2⟩:=h6;rw [g1] at gg;rw [g2] at ge;clear HR g1 g2;(go_enter Tryz.func28,Tryz.ntmps28);(go_wp2_with fail);refine (gg.out _ (ga.out.below hB)).mono ?_;rintro e w1 ⟨rfl,gd⟩;have M:=am hB gd;have gu:=hid (ga.out.below M);have N:=gl.bl gd;clear a0 a1 a2 a3 b0 b1 b2 b3;obtain ⟨x0,x1,x2,x3,-,-,-,-⟩:=ac N;obtain ⟨b0,b1,b2,b3,-⟩:=gu.out;(go_wp2_with fail);refine (ge.out _ gu.out).mono ?_;rintro e w2 ⟨rfl,gi⟩;(go_wp2_with fail);go_ret;exact ⟨by rw [J.out];rfl,am M gi⟩
 have g0:al.length≤1000000000:=gn.out.len;have gj:=hid (show ep (aa d) (cg names) (.mk 12 ⟨#[]⟩ [.mk 6 ⟨#[]⟩ al ap,b] np)=al.all (dI (aa d) (cg names)) by rw [HR.out];simp [h6]);have gy:=hid (fun (i:Nat) (h:i<al.length) (x:Nd) (hx:x∈al[i].kids)=>(gn.out.kid' (k:=al[i]) (List.getElem_mem h)).kid' hx);clear HR gn;cases g1:ag b;all_goals
  rw [g1] at gg h6;first
   | (rw [show (aa d).typ b=true from by simpa using h6] at ge)
   | skip
  clear h6 g1;(go_enter Tryz.func28,Tryz.ntmps28);(go_wp2_with fail);refine (gg.out _ (ga.out.below hB)).mono ?_;rintro e w1 ⟨rfl,gd⟩;have M:=am hB gd;have N:=gl.bl gd;clear a0 a1 a2 a3 b0 b1 b2 b3;obtain ⟨x0,x1,x2,x3,-,-,-,-⟩:=ac N;obtain ⟨b0,b1,b2,b3,-⟩:=ga.out.below M;obtain ⟨a0,a1,a2,a3,-⟩:=gp.out.below M;simp only [Nd.kind_mk,Nd.text_mk,Nd.kids_mk,Nd.pos_mk] at a0 a1 a2 a3;clear hB gd gl gg;(go_wp2_with fail);try
   refine (ge.out _ (ga.out.below M)).mono ?_
   rintro e w2 ⟨rfl,gi⟩
   replace M:=am M gi
   replace N:=N.bl gi
   clear a0 a1 a2 a3 b0 b1 b2 b3 x0 x1 x2 x3
   obtain ⟨x0,x1,x2,x3,-,-,-,-⟩:=ac N
   obtain ⟨b0,b1,b2,b3,-⟩:=ga.out.below M
   obtain ⟨a0,a1,a2,a3,-⟩:=gp.out.below M
   simp only [Nd.kind_mk,Nd.text_mk,Nd.kids_mk,Nd.pos_mk] at a0 a1 a2 a3
   go_wp2_with fail
  clear a0 a1 a2 a3 b0 b1 b2 b3 x0 x1 x2 x3 N ge ga;go_loopg [6] al.length (fun k u6 wr=>∃ i:Nat,i≤al.length∧al.length-i≤k∧u6=.int .i64 (i:Int)∧Below w.heap.size w wr∧(al.take i).all (dI (aa d) (cg names))=true)
  case atStart=>exact ⟨0,Nat.zero_le _,by omega,rfl,M,rfl⟩
  case round=>
   clear M;obtain ⟨i,hi,hk,rfl,U,gb⟩:=hrel;by_cases gh:i<al.length
   ·(have gr:(i:Int)<(al.length:Int):=by omega);(have h0:(0:Int)≤(i:Int):=by omega);obtain ⟨bp,op,A2,c2,gw,hp⟩:=aU (gp.out.below U).2.2.2.2 i gh;simp only [Nd.kids_mk] at hp;subst gw;have K:=hid (show dI (aa d) (cg names) al[i]=true→(al.take (i+1)).all (dI (aa d) (cg names))=true by intro h;rw [List.take_succ_eq_append_getElem gh,List.all_append,gb];simp [h]);have D:=hid (show dI (aa d) (cg names) al[i]=false→ep (aa d) (cg names) (.mk 12 ⟨#[]⟩ [.mk 6 ⟨#[]⟩ al ap,b] np)=false by intro h;rw [gj.out,List.all_eq_false];exact ⟨_,List.getElem_mem gh,by simp [h]⟩);have gt:=hid (gy.out i gh);rw [Bc] at K D;generalize al[i]=q at *;obtain ⟨qk,qt,ql,qp⟩:=q;have HP:=hid hp;obtain ⟨p0,p1,p2,p3,-⟩:=hp;simp only [Nd.kind_mk,Nd.text_mk,Nd.kids_mk,Nd.pos_mk] at K D gt p0 p1 p2 p3;clear gb;by_cases q1:qk=8
    rotate_left
    ·(have j:(qk != 8)=true:=by simpa using q1);have J:=hid (D.out (by simp [q1]));clear q1 K D;(go_wp2_with fail);go_ret;exact ⟨by rw [J.out];rfl,U⟩
    subst q1;by_cases q2:ql.length=1
    rotate_left
    ·(have j:((ql.length:Int) != 1)=true:=by simp;omega);have J:=hid (D.out (by
      rcases ql with _ | ⟨x,_ | ⟨y,l⟩⟩
      ·simp
      ·exact absurd rfl q2
      ·simp))
     clear q2 K D;(go_wp2_with fail);go_ret;exact ⟨by rw [J.out];rfl,U⟩
    obtain ⟨x,rfl⟩:∃ x,ql=[x]:=by
     rcases ql with _ | ⟨x,_ | ⟨y,l⟩⟩
     ·simp at q2
     ·exact ⟨x,rfl⟩
     ·simp at q2
    clear q2;obtain ⟨bx,ox,A3,c3,gv,hx⟩:=aU HP.out.2.2.2.2 0 (by simp);simp only [Nd.kids_mk,List.getElem_cons_zero,Nat.zero_mul,Nat.add_zero] at hx;subst gv;obtain ⟨y0,y1,y2,y3,gq⟩:=hx;have O:=hid (gs.out _ x wr gq (gt.out x (by simp)));simp only at K D;clear gq;cases q3:(aa d).typ x with
    | false=>have J:=hid (D.out (by simp [q3]));rw [q3] at O;clear q3 K D;(go_wp2_with fail);refine (O.out).mono ?_;rintro e w3 ⟨rfl,I⟩;(go_wp2_with fail);go_ret;exact ⟨by rw [J.out];rfl,am U I⟩
    | true=>
     rw [q3] at O K D;clear q3;cases names with
     | true=>
      cases q4:aw qt with
      | true=>
       have J:=hid (K.out (by simp [cg,q4]));clear K D;(go_wp2_with fail);refine (O.out).mono ?_;rintro e w3 ⟨rfl,I⟩;have u:=am U I;clear p0 p1 p2 p3 y0 y1 y2 y3 O;obtain ⟨p0,p1,p2,p3,-⟩:=HP.out.below I;simp only [Nd.kind_mk,Nd.text_mk,Nd.pos_mk] at p0 p1 p3;(go_wp2_with fail);refine (aB _ _).mono ?_;rw [q4];rintro e w4 ⟨rfl,yk⟩;(go_wp2_with fail);go_roundg (al.length-(i+1))
       case measure=>omega
       case rel=>exact ⟨i+1,by omega,Nat.le_refl _,by go_num,am u yk,J.out⟩
      | false=>have J:=hid (D.out (by simp [cg,q4]));clear K D;(go_wp2_with fail);refine (O.out).mono ?_;rintro e w3 ⟨rfl,I⟩;have u:=am U I;clear p0 p1 p2 p3 y0 y1 y2 y3 O;obtain ⟨p0,p1,p2,p3,-⟩:=HP.out.below I;simp only [Nd.kind_mk,Nd.text_mk,Nd.pos_mk] at p0 p1 p3;(go_wp2_with fail);refine (aB _ _).mono ?_;rw [q4];rintro e w4 ⟨rfl,yk⟩;(go_wp2_with fail);go_ret;exact ⟨by rw [J.out];rfl,am u yk⟩
     | false=>
      by_cases q4:qt=⟨#[]⟩
      ·subst q4;have J:=hid (K.out (by simp [cg,dL]));clear K D;(go_wp2_with fail);refine (O.out).mono ?_;rintro e w3 ⟨rfl,I⟩;have u:=am U I;clear p0 p1 p2 p3 y0 y1 y2 y3 O;obtain ⟨p0,p1,p2,p3,-⟩:=HP.out.below I;simp only [Nd.kind_mk,Nd.text_mk,Nd.pos_mk] at p0 p1 p3;(go_wp2_with fail);go_roundg (al.length-(i+1))
       case measure=>omega
       case rel=>exact ⟨i+1,by omega,Nat.le_refl _,by go_num,u,J.out⟩
      ·(have j:qt.toList.isEmpty=false:=by rw [af];simpa using q4);have J:=hid (D.out (by simp [cg,dL,q4]));clear K D q4;(go_wp2_with fail);refine (O.out).mono ?_;rintro e w3 ⟨rfl,I⟩;have u:=am U I;clear p0 p1 p2 p3 y0 y1 y2 y3 O;obtain ⟨p0,p1,p2,p3,-⟩:=HP.out.below I;simp only [Nd.kind_mk,Nd.text_mk,Nd.pos_mk] at p0 p1 p3;(go_wp2_with fail);go_ret;exact ⟨by rw [J.out];rfl,u⟩
   ·(have gr:¬ (i:Int)<(al.length:Int):=by omega);have J:=hid (show ep (aa d) (cg names) (.mk 12 ⟨#[]⟩ [.mk 6 ⟨#[]⟩ al ap,b] np)=true by rw [gj.out,←gb,List.take_of_length_le (by omega)]);clear gb;(go_wp2_with fail);go_ret;exact ⟨by rw [J.out];rfl,U⟩
def im:Nat→Nd→Nat
 | 0,_=>0
 | g+1,n=>(n.kids.map (im g)).foldl max 0+1
theorem nC {b:Nat} : ∀ (l:List Nat) (a:Nat),a≤b→(∀ x∈l,x≤b)→l.foldl max a≤b
 | [],a,h,_=>h
 | x::l,a,h,D=>nC l (max a x) (Nat.max_le.2 ⟨h,D x (by simp)⟩) fun y hy=>D y (by simp [hy])
theorem yN:∀ (g:Nat) (n:Nd),im g n≤g
 | 0,_=>Nat.le_refl _
 | g+1,n=>by have:=nC (b:=g) (n.kids.map (im g)) 0 (Nat.zero_le _) (fun x hx=>by obtain ⟨k,_,rfl⟩:=List.mem_map.1 hx;exact yN g k);unfold im;omega
theorem pH (l:List Nat):∀ a m,l.foldl max a≤m↔a≤m∧∀ x∈l,x≤m:=by
 induction l with
 | nil=>intro a m;simp
 | cons x l ih=>
  intro a m;rw [List.foldl_cons,ih,Nat.max_le];simp only [List.mem_cons,forall_eq_or_imp];constructor
  ·rintro ⟨⟨J,I⟩,D⟩;exact ⟨J,I,D⟩
  ·rintro ⟨J,I,D⟩;exact ⟨⟨J,I⟩,D⟩
theorem pI:∀ (g:Nat) (n:Nd) (m:Nat),im g n≤m↔∀ x∈aF g n,g+1-x≤m
 | 0,n,m=>by simp [im,aF]
 | g+1,n,0=>by
  rw [aF,im];constructor
  ·intro h;omega
  ·intro h;have:=h (g+1) List.mem_cons_self;omega
 | g+1,n,m+1=>by
  rw [aF,im,Nat.add_le_add_iff_right,pH];constructor
  ·rintro ⟨-,h⟩ x D;rcases List.mem_cons.1 D with rfl | D
   ·omega
   ·obtain ⟨k,I,D⟩:=List.mem_flatMap.1 D;have:=(pI g k m).1 (h _ (List.mem_map.2 ⟨k,I,rfl⟩)) x D;omega
  ·intro h;refine ⟨Nat.zero_le _,fun y hy=>?_⟩;obtain ⟨k,I,rfl⟩:=List.mem_map.1 hy;refine (pI g k m).2 fun x D=>?_;have:=h x (List.mem_cons_of_mem _ (List.mem_flatMap.2 ⟨k,I,D⟩));omega
theorem uo (n:Nd):im 101 n≤100↔d7 n≤100:=by
 rw [pI,d7,iB];constructor
 ·intro h;exact ⟨Nat.zero_le _,fun x hx=>by have:=h x hx;omega⟩
 ·rintro ⟨-,h⟩ x hx;have:=h x hx;omega
theorem wM:∀ (d:Nat) (v:Value) (n:Nd) (w:World),d≤1000→ax w v n→nN d n →
  Calls Tryz.prog 21 #[v,.int .i64 (d:Int)] w fun e w'=>e=.returned (.int .i64 ((im d n:Nat):Int))∧Below w.heap.size w w':=by
 intro d;induction d with
 | zero=>intro v n w _ hv _;obtain ⟨A,cp,rfl,M⟩:=hv.toC;clear hv M;have hB:=(ae w #[.int .i64 n.kind,.string n.text,.slice A n.kids.length cp,.int .i64 n.pos]).1;(go_enter Tryz.func21,Tryz.ntmps21);(go_wp2_with fail);go_ret;exact ⟨rfl,hB⟩
 | succ d ih=>
  intro v n w hd hv hw;have HV:=hid hv;have HW:=hid hw;have HI:=hid ih;have gb:=hw.1.1;obtain ⟨A,cp,rfl,M⟩:=hv.toC;clear hv M hw ih;have hB:=(ae w #[.int .i64 n.kind,.string n.text,.slice A n.kids.length cp,.int .i64 n.pos]).1;have J:=(ae w #[.int .i64 n.kind,.string n.text,.slice A n.kids.length cp,.int .i64 n.pos]).2;(have hz:((d:Int)+1==0)=false:=by simp;omega);have hT:=hid (show im (d+1) n=(n.kids.map (im d)).foldl max 0+1 from rfl);(go_enter Tryz.func21,Tryz.ntmps21);(go_wp2_with fail);go_loopg [5,6] n.kids.length (fun g1 u5 u6 wr=>∃ (i m:Nat),i≤n.kids.length∧n.kids.length-i≤g1∧u6=.int .i64 (i:Int)∧u5=.int .i64 (m:Int)∧m=((n.kids.take i).map (im d)).foldl max 0∧m≤d∧Below w.heap.size w wr∧ar wr w.heap.size 24 #[.int .i64 n.kind,.string n.text,.slice A n.kids.length cp,.int .i64 n.pos])
  case atStart=>exact ⟨0,0,Nat.zero_le _,by omega,rfl,rfl,rfl,Nat.zero_le _,hB,J⟩
  case round=>
   clear J hB;obtain ⟨i,m,hi,hg,rfl,rfl,U,ga,hB,J⟩:=hrel;have h:=hid U;clear U;obtain ⟨x0,x1,x2,u,-,-,-,-⟩:=ac J;by_cases D:i<n.kids.length
   ·(have K:(i:Int)<(n.kids.length:Int):=by omega);(have h0:(0:Int)≤(i:Int):=by omega);obtain ⟨bp,op,A1,ge,rfl,O⟩:=aU (ai.below HV.out hB) i D;have HK:=hid (show max m (im d n.kids[i])=((n.kids.take (i+1)).map (im d)).foldl max 0 by rw [List.take_succ_eq_append_getElem D,List.map_append,List.foldl_append,←h.out];rfl);have gd:=yN d n.kids[i];have j:=hid (HI.out _ n.kids[i] wr (by omega) O.2.2.2.2 (HW.out.2 _ (List.getElem_mem D)));generalize n.kids[i]=x at *;generalize im d x=q at *;obtain ⟨k0,k1,k2,k3,-⟩:=O;(go_wp2_with fail);refine j.out.mono ?_;rintro e w2 ⟨rfl,I⟩;have N:=am hB I;have b2:=J.bl I;clear I J j k0 k1 k2 k3 x0 x1 x2 u;(go_wp2_with fail);go_roundg (n.kids.length-(i+1))
    case measure=>omega
    case rel=>exact ⟨i+1,max m q,by omega,Nat.le_refl _,by go_num,by go_num,HK.out,by omega,N,b2⟩
   ·(have K:¬ (i:Int)<(n.kids.length:Int):=by omega);have HE:=hid (show m+1=im (d+1) n by rw [hT.out,h.out,List.take_of_length_le (by omega)]);(go_wp2_with fail);go_ret;exact ⟨by rw [←HE.out];go_num,hB⟩
def fF (f:Nd→Bool):List Nd→Bool
 | [x]=>f x
 | _=>false
theorem cv (f:Nd→Bool) (x:Nd):fF f [x]=f x:=rfl
theorem eC (f:Nd→Bool) {l:List Nd} (h:l.length≠1):fF f l=false:=by
 rcases l with _ | ⟨x,_ | ⟨y,l⟩⟩
 ·rfl
 ·exact absurd rfl h
 ·rfl
theorem iJ {l:List Nd} (h:l.length=1):∃ x,l=[x]:=by
 rcases l with _ | ⟨x,_ | ⟨y,l⟩⟩
 ·simp at h
 ·exact ⟨x,rfl⟩
 ·simp at h
theorem oq (k:Int) (f:Nd→Bool) (n:Nd):bQ k [f] n=(decide (n.kind=k)&&(decide (n.text=(⟨#[]⟩:BA))&&fF f n.kids)):=by
 unfold bQ;congr 2;rcases n.kids with _ | ⟨x,_ | ⟨y,l⟩⟩
 ·rfl
 ·simp [aH,fF]
 ·simp [aH,fF]
theorem FI (F:bj) (t:ByteArray) (l:List Nd) (p:Int):dg F (.mk 10 t l p)=(aw t&&l.all F.typ):=by simp [dg]
theorem FJ (F:bj) (t:ByteArray) (l:List Nd) (p:Int):dg F (.mk 11 t l p)=(decide (t=(⟨#[]⟩:BA))&&fF F.typ l):=by (have h:dg F (.mk 11 t l p)=bQ 11 [F.typ] (.mk 11 t l p):=by simp [dg]);rw [h,oq];simp;rfl
theorem FK (F:bj) (t:ByteArray) (l:List Nd) (p:Int):dg F (.mk 12 t l p)=ep F dL (.mk 12 t l p):=by simp [dg]
theorem sc (F:bj) (k:Int) (t:ByteArray) (l:List Nd) (p:Int) (J:k≠10) (I:k≠11) (D:k≠12):dg F (.mk k t l p)=false:=by simp [dg,J,I,D]
theorem DR:∀ d,nZ d 25 (aa d).typ:=by
 intro d;induction d with
 | zero=>exact fun _ _ _ _ h=>h.elim
 | succ d ih=>
  intro v n w hv hd;rw [show (aa (d+1)).typ n=dg (aa d) n from rfl];have HI:=hid ih;have HV:=hid hv;have HD:=hid hd;have gn:=hd.1.1;obtain ⟨A,cp,rfl,hC⟩:=hv.toC;have hB:=(ae w #[.int .i64 n.kind,.string n.text,.slice A n.kids.length cp,.int .i64 n.pos]).1;have N:=(ae w #[.int .i64 n.kind,.string n.text,.slice A n.kids.length cp,.int .i64 n.pos]).2;have gb:=hid (fun w' (hb:Below w.heap.size w w')=>pG d ih false _ n w' (ai.below hv hb) hd);clear hv hC hd ih;generalize aa d=F at *;obtain ⟨nk,nt,nl,np⟩:=n;simp only [Nd.kind_mk,Nd.text_mk,Nd.kids_mk,Nd.pos_mk] at *;by_cases h1:nk=10
  ·subst h1;have D:=hid (show dg F (.mk 10 nt nl np)=(aw nt&&nl.all F.typ) from FI _ _ _ _);clear gb;cases K:aw nt with
   | false=>have J:=hid (show dg F (.mk 10 nt nl np)=false by rw [D.out,K,Bool.false_and]);(go_enter Tryz.func25,Tryz.ntmps25);(go_wp2_with fail);refine (aB _ _).mono ?_;rw [K];rintro e w1 ⟨rfl,U⟩;(go_wp2_with fail);go_ret;exact ⟨by rw [J.out];rfl,am hB U⟩
   | true=>
    have ge:=hid (show dg F (.mk 10 nt nl np)=nl.all F.typ by rw [D.out,K,Bool.true_and]);clear D;(go_enter Tryz.func25,Tryz.ntmps25);(go_wp2_with fail);refine (aB _ _).mono ?_;rw [K];rintro e w1 ⟨rfl,U⟩;have gi:=am hB U;have gd:=N.bl U;clear hB N U K;(go_wp2_with fail);go_loopg [3] nl.length (fun k u3 wr=>∃ i:Nat,i≤nl.length∧nl.length-i≤k∧u3=.int .i64 (i:Int)∧Below w.heap.size w wr∧ar wr w.heap.size 24 #[.int .i64 10,.string nt,.slice A nl.length cp,.int .i64 np]∧(nl.take i).all F.typ=true)
    case atStart=>exact ⟨0,Nat.zero_le _,by omega,rfl,gi,gd,rfl⟩
    case round=>
     clear gi gd;obtain ⟨i,hi,hk,rfl,ga,N,M⟩:=hrel;obtain ⟨x0,x1,x2,x3,-,-,-,-⟩:=ac N;by_cases u:i<nl.length
     ·(have gh:(i:Int)<(nl.length:Int):=by omega);(have h0:(0:Int)≤(i:Int):=by omega);obtain ⟨bp,op,A2,c2,gl,hp⟩:=aU (ai.below HV.out ga) i u;simp only [Nd.kids_mk] at hp;subst gl;have gg:=hid (show F.typ nl[i]=true→(nl.take (i+1)).all F.typ=true by intro h;rw [List.take_succ_eq_append_getElem u,List.all_append,M];simp [h]);have j:=hid (show F.typ nl[i]=false→dg F (.mk 10 nt nl np)=false by intro h;rw [ge.out,List.all_eq_false];exact ⟨_,List.getElem_mem u,by simp [h]⟩);have gm:=hid (HD.out.kid (k:=nl[i]) (List.getElem_mem u));generalize nl[i]=q at *;have O:=hid (HI.out _ q wr hp.2.2.2.2 gm.out);obtain ⟨p0,p1,p2,p3,-⟩:=hp;clear M;cases q3:F.typ q with
      | false=>have J:=hid (j.out q3);rw [q3] at O;clear q3 gg j;(go_wp2_with fail);refine (O.out).mono ?_;rintro e w3 ⟨rfl,I⟩;(go_wp2_with fail);go_ret;exact ⟨by rw [J.out];rfl,am ga I⟩
      | true=>
       have J:=hid (gg.out q3);rw [q3] at O;clear q3 gg j;(go_wp2_with fail);refine (O.out).mono ?_;rintro e w3 ⟨rfl,I⟩;(go_wp2_with fail);go_roundg (nl.length-(i+1))
       case measure=>omega
       case rel=>exact ⟨i+1,by omega,Nat.le_refl _,by go_num,am ga I,N.bl I,J.out⟩
     ·(have gh:¬ (i:Int)<(nl.length:Int):=by omega);have J:=hid (show dg F (.mk 10 nt nl np)=true by rw [ge.out,←M,List.take_of_length_le (by omega)]);clear M;(go_wp2_with fail);go_ret;exact ⟨by rw [J.out];rfl,ga⟩
  by_cases K:nk=11
  ·subst K;have D:=hid (show dg F (.mk 11 nt nl np)=(decide (nt=(⟨#[]⟩:BA))&&fF F.typ nl) from FJ _ _ _ _);clear gb h1;by_cases K:nt=⟨#[]⟩
   rotate_left
   ·(have yk:nt.toList.isEmpty=false:=by rw [af];simpa using K);have J:=hid (show dg F (.mk 11 nt nl np)=false by rw [D.out];simp [K]);clear D K;(go_enter Tryz.func25,Tryz.ntmps25);(go_wp2_with fail);go_ret;exact ⟨by rw [J.out];rfl,hB⟩
   subst K;by_cases h3:nl.length=1
   rotate_left
   ·(have yk:((nl.length:Int)==1)=false:=by simp;omega);have J:=hid (show dg F (.mk 11 ⟨#[]⟩ nl np)=false by rw [D.out,eC _ h3,Bool.and_false]);clear D h3;generalize nl.length=m at *;(go_enter Tryz.func25,Tryz.ntmps25);(go_wp2_with fail);go_ret;exact ⟨by rw [J.out];rfl,hB⟩
   obtain ⟨x,rfl⟩:=iJ h3;clear h3;have J:=hid (show dg F (.mk 11 ⟨#[]⟩ [x] np)=F.typ x by rw [D.out,cv];simp);have gj:ax w (.agg #[.int .i64 11,.string ⟨#[]⟩,.slice A 1 cp,.int .i64 np]) (.mk 11 ⟨#[]⟩ [x] np):=HV.out;have hB:Below w.heap.size w (w.alloc (.cells #[.int .i64 11,.string ⟨#[]⟩,.slice A 1 cp,.int .i64 np] 24)):=hB;obtain ⟨bp,op,A2,c2,rfl,hp⟩:=aU (ai.below gj hB) 0 (by simp);simp only [Nd.kids_mk,List.getElem_cons_zero,Nat.zero_mul,Nat.add_zero] at hp;have O:=hid (HI.out _ x _ hp.2.2.2.2 (HD.out.kid (k:=x) (by simp)));obtain ⟨p0,p1,p2,p3,-⟩:=hp;clear D gj HV;(go_enter Tryz.func25,Tryz.ntmps25);(go_wp2_with fail);refine (O.out).mono ?_;rintro e w3 ⟨rfl,I⟩;(go_wp2_with fail);go_ret;exact ⟨by rw [J.out];rfl,am hB I⟩
  by_cases h3:nk=12
  ·subst h3;have J:=hid (show dg F (.mk 12 nt nl np)=ep F (cg false) (.mk 12 nt nl np) from FK _ _ _ _);obtain ⟨x0,x1,x2,x3,-,-,-,-⟩:=ac N;clear h1 K;(go_enter Tryz.func25,Tryz.ntmps25);(go_wp2_with fail);refine (gb.out _ hB).mono ?_;rintro e w3 ⟨rfl,I⟩;(go_wp2_with fail);go_ret;exact ⟨by rw [J.out];rfl,am hB I⟩
  have J:=hid (show dg F (.mk nk nt nl np)=false from sc _ _ _ _ _ h1 K h3);(have e1:(nk==10)=false:=by simpa using h1);(have e2:(nk==11)=false:=by simpa using K);(have e3:(nk==12)=false:=by simpa using h3);clear h1 K h3 gb;(go_enter Tryz.func25,Tryz.ntmps25);(go_wp2_with fail);go_ret;exact ⟨by rw [J.out];rfl,hB⟩
theorem fX (k:Int) (f:Nd→Bool) (so:ByteArray→Bool) (p:Nd):bQ k [f] (aq so p)=(decide (p.kind=k)&&(fF f p.kids&&so p.text)):=by
 obtain ⟨j,t,l,a⟩:=p;rw [show aq so (.mk j t l a)=if so t=true then .mk j (⟨#[]⟩:BA) l a else .mk 37 (⟨#[]⟩:BA) [] 0 from rfl];by_cases hs:so t=true
 ·rw [if_pos hs,oq];simp [hs];rfl
 ·rw [if_neg hs,oq];rw [Bool.not_eq_true] at hs;simp [hs,fF]
theorem DS (F:bj) (p:Nd):f5 F p=(decide (p.kind=15)&&(fF F.typ p.kids&&eQ p.text)):=fX 15 _ _ _
theorem Bv (F:bj) (p:Nd):eR F p=(decide (p.kind=9)&&(fF F.typ p.kids&&aw p.text)):=fX 9 _ _ _
theorem yh (F:bj) (p:Nd):eS F p=(decide (p.kind=7)&&(fF (bI (ey F) (aV F)) p.kids&&aw p.text)):=fX 7 _ _ _
theorem dQ (d:Nat) (hT:nZ d 25 (aa d).typ):∀ (v:Value) (n:Nd) (w:World),ax w v n→cq (d+1) n→Calls Tryz.prog 49 #[v] w fun e w'=>e=.returned (.bool (aV (aa d) n))∧Below w.heap.size w w':=by
 intro v n w hv hd;have HV:=hid hv;have HD:=hid hd;have gq:=hd.1.1;obtain ⟨A,cp,rfl,hC⟩:=hv.toC;have hB:=(ae w #[.int .i64 n.kind,.string n.text,.slice A n.kids.length cp,.int .i64 n.pos]).1;have O:=(ae w #[.int .i64 n.kind,.string n.text,.slice A n.kids.length cp,.int .i64 n.pos]).2;have H0:=hid hT;clear hv hC hd hT;generalize aa d=F at *;obtain ⟨nk,nt,nl,np⟩:=n;simp only [Nd.kind_mk,Nd.text_mk,Nd.kids_mk,Nd.pos_mk] at *;by_cases h1:nk=14
 rotate_left
 ·(have N:(nk != 14)=true:=by simpa using h1);have K:=hid (show aV F (.mk nk nt nl np)=false by simp [aV,h1]);clear h1;(go_enter Tryz.func49,Tryz.ntmps49);(go_wp2_with fail);go_ret;exact ⟨by rw [K.out];rfl,hB⟩
 subst h1;by_cases h2:nt=⟨#[]⟩
 rotate_left
 ·(have N:nt.toList.isEmpty=false:=by rw [af];simpa using h2);have K:=hid (show aV F (.mk 14 nt nl np)=false by simp [aV,h2]);clear h2;(go_enter Tryz.func49,Tryz.ntmps49);(go_wp2_with fail);go_ret;exact ⟨by rw [K.out];rfl,hB⟩
 subst h2;by_cases h3:nl.length=0
 ·(have N:((nl.length:Int)==0)=true:=by rw [beq_iff_eq];omega);have K:=hid (show aV F (.mk 14 ⟨#[]⟩ nl np)=false by simp [aV,h3]);clear h3;generalize nl.length=m at *;(go_enter Tryz.func49,Tryz.ntmps49);(go_wp2_with fail);go_ret;exact ⟨by rw [K.out];rfl,hB⟩
 (have N:((nl.length:Int)==0)=false:=by rw [beq_eq_false_iff_ne];omega);have gh:=hid (show aV F (.mk 14 ⟨#[]⟩ nl np)=nl.all (f5 F) by simp [aV,Nat.pos_of_ne_zero h3]);clear h3;(go_enter Tryz.func49,Tryz.ntmps49);(go_wp2_with fail);go_loopg [3,4] nl.length (fun k u3 _ wr=>∃ i:Nat,i≤nl.length∧nl.length-i≤k∧u3=.int .i64 (i:Int)∧Below w.heap.size w wr∧ar wr w.heap.size 24 #[.int .i64 14,.string ⟨#[]⟩,.slice A nl.length cp,.int .i64 np]∧(nl.take i).all (f5 F)=true)
 case atStart=>exact ⟨0,Nat.zero_le _,by omega,rfl,hB,O,rfl⟩
 case round=>
  clear hB O N;obtain ⟨i,hi,hk,rfl,gd,O,M⟩:=hrel;obtain ⟨x0,x1,x2,x3,-,-,-,-⟩:=ac O;by_cases ga:i<nl.length
  ·(have yk:(i:Int)<(nl.length:Int):=by omega);(have h0:(0:Int)≤(i:Int):=by omega);obtain ⟨bp,op,A2,c2,gn,hp⟩:=aU (ai.below HV.out gd) i ga;simp only [Nd.kids_mk] at hp;subst gn;have J:=hid (show f5 F nl[i]=true→(nl.take (i+1)).all (f5 F)=true by intro h;rw [List.take_succ_eq_append_getElem ga,List.all_append,M];simp [h]);have D:=hid (show f5 F nl[i]=false→aV F (.mk 14 ⟨#[]⟩ nl np)=false by intro h;rw [gh.out,List.all_eq_false];exact ⟨_,List.getElem_mem ga,by simp [h]⟩);have gp:=hid (HD.out.kid (k:=nl[i]) (List.getElem_mem ga));rw [DS] at J D;generalize nl[i]=q at *;obtain ⟨qk,qt,ql,qp⟩:=q;obtain ⟨p0,p1,p2,p3,gi⟩:=hp;simp only [Nd.kind_mk,Nd.text_mk,Nd.kids_mk,Nd.pos_mk] at J D p0 p1 p2 p3 gi;have gl:=hid gi;have I:=gd.alloc gd.size (.cells #[.int .i64 qk,.string qt,.slice A2 ql.length c2,.int .i64 qp] 24);have gr:=ar.new wr 24 #[.int .i64 qk,.string qt,.slice A2 ql.length c2,.int .i64 qp];have gm:=(ae wr #[.int .i64 qk,.string qt,.slice A2 ql.length c2,.int .i64 qp]).1;clear M gi;by_cases q1:qk=15
   rotate_left
   ·(have N:(qk != 15)=true:=by simpa using q1);have K:=hid (D.out (by simp [q1]));clear q1 J D;(go_wp2_with fail);go_ret;exact ⟨by rw [K.out];rfl,I⟩
   subst q1;by_cases j:eQ qt=true
   rotate_left
   ·have U:=Bool.eq_false_iff.2 j;(have e1:qt.toList.isEmpty=false:=by unfold eQ at U;rw [af];exact (Bool.or_eq_false_iff.1 U).1);(have e2:(qt.toList==[126])=false:=by unfold eQ at U;rw [←bq qt [126]];exact (Bool.or_eq_false_iff.1 U).2);have K:=hid (D.out (by simp [U]));clear j U J D;(go_wp2_with fail);go_ret;exact ⟨by rw [K.out];rfl,I⟩
   by_cases U:ql.length=1
   rotate_left
   ·(have N:((ql.length:Int) != 1)=true:=by simp;omega);have K:=hid (D.out (by rw [eC _ U];simp));(have u:qt=⟨#[]⟩∨qt=⟨#[126]⟩:=by unfold eQ at j;simpa using j);clear j U J D;rcases u with rfl | rfl;all_goals (go_wp2_with fail);go_ret;exact ⟨by rw [K.out];rfl,I⟩
   obtain ⟨x,rfl⟩:=iJ U;rw [cv] at J D;have gg:ax wr (.agg #[.int .i64 15,.string qt,.slice A2 1 c2,.int .i64 qp]) (.mk 15 qt [x] qp):=gl.out;have I:Below w.heap.size w (wr.alloc (.cells #[.int .i64 15,.string qt,.slice A2 1 c2,.int .i64 qp] 24)):=I;obtain ⟨bx,ox,A3,c3,rfl,hx⟩:=aU gg 0 (by simp);simp only [Nd.kids_mk,List.getElem_cons_zero,Nat.zero_mul,Nat.add_zero] at hx;obtain ⟨y0,y1,y2,y3,gj⟩:=hx.below ((Below.refl wr.heap.size wr).alloc (Nat.le_refl _) (.cells #[.int .i64 15,.string qt,.slice (some ⟨bx,ox,none⟩) 1 c2,.int .i64 qp] 24));have ge:=hid (H0.out _ x _ gj (gp.out.kid' (k:=x) (by simp)));(have u:qt=⟨#[]⟩∨qt=⟨#[126]⟩:=by unfold eQ at j;simpa using j);clear hx gj U gl gg;cases q4:F.typ x with
   | false=>have K:=hid (D.out (by simp [q4]));rw [q4] at ge;clear q4 j J D;rcases u with rfl | rfl;all_goals (go_wp2_with fail);refine (ge.out).mono ?_;rintro e w3 ⟨rfl,gb⟩;(go_wp2_with fail);go_ret;exact ⟨by rw [K.out];rfl,am I gb⟩
   | true=>
    have K:=hid (J.out (by simp [q4,j]));rw [q4] at ge;clear q4 j J D;rcases u with rfl | rfl;all_goals
     (go_wp2_with fail);refine (ge.out).mono ?_;rintro e w3 ⟨rfl,gb⟩;(go_wp2_with fail);go_roundg (nl.length-(i+1))
     case measure=>omega
     case rel=>exact ⟨i+1,by omega,Nat.le_refl _,by go_num,am I gb,(O.bl gm).below gb (by simp;exact Nat.lt_succ_of_lt O.lt),K.out⟩
  ·(have yk:¬ (i:Int)<(nl.length:Int):=by omega);have K:=hid (show aV F (.mk 14 ⟨#[]⟩ nl np)=true by rw [gh.out,←M,List.take_of_length_le (by omega)]);clear M;(go_wp2_with fail);go_ret;exact ⟨by rw [K.out];rfl,gd⟩
theorem uF (d:Nat) (hT:nZ d 25 (aa d).typ):∀ (v:Value) (n:Nd) (w:World),ax w v n→cq (d+1) n→Calls Tryz.prog 48 #[v] w fun e w'=>e=.returned (.bool (aZ (aa d) n))∧Below w.heap.size w w':=by
 intro v n w hv hd;have HV:=hid hv;have HD:=hid hd;have gu:=hd.1.1;obtain ⟨A,cp,rfl,hC⟩:=hv.toC;have hB:=(ae w #[.int .i64 n.kind,.string n.text,.slice A n.kids.length cp,.int .i64 n.pos]).1;have u:=(ae w #[.int .i64 n.kind,.string n.text,.slice A n.kids.length cp,.int .i64 n.pos]).2;have H0:=hid hT;clear hv hC hd hT;generalize aa d=F at *;obtain ⟨nk,nt,nl,np⟩:=n;simp only [Nd.kind_mk,Nd.text_mk,Nd.kids_mk,Nd.pos_mk] at *;by_cases h1:nk=13
 rotate_left
 ·(have gl:(nk != 13)=true:=by simpa using h1);have O:=hid (show aZ F (.mk nk nt nl np)=false by simp [aZ,h1]);clear h1;(go_enter Tryz.func48,Tryz.ntmps48);(go_wp2_with fail);go_ret;exact ⟨by rw [O.out];rfl,hB⟩
 subst h1;by_cases h2:nt=⟨#[]⟩
 rotate_left
 ·(have gl:nt.toList.isEmpty=false:=by rw [af];simpa using h2);have O:=hid (show aZ F (.mk 13 nt nl np)=false by simp [aZ,h2]);clear h2;(go_enter Tryz.func48,Tryz.ntmps48);(go_wp2_with fail);go_ret;exact ⟨by rw [O.out];rfl,hB⟩
 subst h2;have gj:=hid (show aZ F (.mk 13 ⟨#[]⟩ nl np)=nl.all (eR F) by simp [aZ]);(go_enter Tryz.func48,Tryz.ntmps48);(go_wp2_with fail);go_loopg [3,4] nl.length (fun k u3 _ wr=>∃ i:Nat,i≤nl.length∧nl.length-i≤k∧u3=.int .i64 (i:Int)∧Below w.heap.size w wr∧ar wr w.heap.size 24 #[.int .i64 13,.string ⟨#[]⟩,.slice A nl.length cp,.int .i64 np]∧(nl.take i).all (eR F)=true)
 case atStart=>exact ⟨0,Nat.zero_le _,by omega,rfl,hB,u,rfl⟩
 case round=>
  clear hB u;obtain ⟨i,hi,hk,rfl,gg,u,U⟩:=hrel;obtain ⟨x0,x1,x2,x3,-,-,-,-⟩:=ac u;by_cases gd:i<nl.length
  ·(have gm:(i:Int)<(nl.length:Int):=by omega);(have h0:(0:Int)≤(i:Int):=by omega);obtain ⟨bp,op,A2,c2,gs,hp⟩:=aU (ai.below HV.out gg) i gd;simp only [Nd.kids_mk] at hp;subst gs;have M:=hid (show eR F nl[i]=true→(nl.take (i+1)).all (eR F)=true by intro h;rw [List.take_succ_eq_append_getElem gd,List.all_append,U];simp [h]);have D:=hid (show eR F nl[i]=false→aZ F (.mk 13 ⟨#[]⟩ nl np)=false by intro h;rw [gj.out,List.all_eq_false];exact ⟨_,List.getElem_mem gd,by simp [h]⟩);have gt:=hid (HD.out.kid (k:=nl[i]) (List.getElem_mem gd));rw [Bv] at M D;generalize nl[i]=q at *;obtain ⟨qk,qt,ql,qp⟩:=q;obtain ⟨p0,p1,p2,p3,yk⟩:=hp;simp only [Nd.kind_mk,Nd.text_mk,Nd.kids_mk,Nd.pos_mk] at M D p0 p1 p2 p3 yk;have gr:=hid yk;have K:=gg.alloc gg.size (.cells #[.int .i64 qk,.string qt,.slice A2 ql.length c2,.int .i64 qp] 24);have N:=ar.new wr 24 #[.int .i64 qk,.string qt,.slice A2 ql.length c2,.int .i64 qp];have j:=(ae wr #[.int .i64 qk,.string qt,.slice A2 ql.length c2,.int .i64 qp]).1;clear U yk;by_cases q1:qk=9
   rotate_left
   ·(have gl:(qk != 9)=true:=by simpa using q1);have O:=hid (D.out (by simp [q1]));clear q1 M D;(go_wp2_with fail);go_ret;exact ⟨by rw [O.out];rfl,K⟩
   subst q1;cases q2:aw qt with
   | false=>have O:=hid (D.out (by simp [q2]));clear M D;(go_wp2_with fail);refine (aB _ _).mono ?_;rw [q2];rintro e w3 ⟨rfl,I⟩;(go_wp2_with fail);go_ret;exact ⟨by rw [O.out];rfl,am K I⟩
   | true=>
    by_cases q3:ql.length=1
    rotate_left
    ·(have gl:((ql.length:Int) != 1)=true:=by simp;omega);have O:=hid (D.out (by rw [eC _ q3];simp));clear q3 M D;(go_wp2_with fail);refine (aB _ _).mono ?_;rw [q2];rintro e w3 ⟨rfl,I⟩;have ga:=am K I;have J:=N.bl I;obtain ⟨z0,z1,z2,z3,-,-,-,-⟩:=ac J;(go_wp2_with fail);go_ret;exact ⟨by rw [O.out];rfl,ga⟩
    obtain ⟨x,rfl⟩:=iJ q3;rw [cv] at M D;have gi:ax wr (.agg #[.int .i64 9,.string qt,.slice A2 1 c2,.int .i64 qp]) (.mk 9 qt [x] qp):=gr.out;have K:Below w.heap.size w (wr.alloc (.cells #[.int .i64 9,.string qt,.slice A2 1 c2,.int .i64 qp] 24)):=K;have N:ar (wr.alloc (.cells #[.int .i64 9,.string qt,.slice A2 1 c2,.int .i64 qp] 24)) wr.heap.size 24 #[.int .i64 9,.string qt,.slice A2 1 c2,.int .i64 qp]:=N;obtain ⟨bx,ox,A3,c3,rfl,hx⟩:=aU gi 0 (by simp);simp only [Nd.kids_mk,List.getElem_cons_zero,Nat.zero_mul,Nat.add_zero] at hx;have j:Below wr.heap.size wr (wr.alloc (.cells #[.int .i64 9,.string qt,.slice (some ⟨bx,ox,none⟩) 1 c2,.int .i64 qp] 24)):=j;have gq:=hid (hx.below j);have gh:=hid (fun w' (h:C4 w' bx ox x A3 c3)=>H0.out _ x w' h.2.2.2.2 (gt.out.kid' (k:=x) (by simp)));have gp:=u.bl j;clear hx q3 gr gi j;cases q4:F.typ x with
    | false=>have O:=hid (D.out (by simp [q4]));rw [q4] at gh;clear q4 M D;(go_wp2_with fail);refine (aB _ _).mono ?_;rw [q2];rintro e w3 ⟨rfl,I⟩;have ga:=am K I;have J:=N.bl I;obtain ⟨z0,z1,z2,z3,-,-,-,-⟩:=ac J;have gb:=hid (gq.out.below I);obtain ⟨y0,y1,y2,y3,-⟩:=gb.out;(go_wp2_with fail);refine (gh.out _ gb.out).mono ?_;rintro e w4 ⟨rfl,ge⟩;(go_wp2_with fail);go_ret;exact ⟨by rw [O.out];rfl,am ga ge⟩
    | true=>
     have O:=hid (M.out (by simp [q4,q2]));rw [q4] at gh;clear q4 M D;(go_wp2_with fail);refine (aB _ _).mono ?_;rw [q2];rintro e w3 ⟨rfl,I⟩;have ga:=am K I;have J:=N.bl I;obtain ⟨z0,z1,z2,z3,-,-,-,-⟩:=ac J;have gb:=hid (gq.out.below I);obtain ⟨y0,y1,y2,y3,-⟩:=gb.out;have gn:=gp.bl I;(go_wp2_with fail);refine (gh.out _ gb.out).mono ?_;rintro e w4 ⟨rfl,ge⟩;(go_wp2_with fail);go_roundg (nl.length-(i+1))
     case measure=>omega
     case rel=>exact ⟨i+1,by omega,Nat.le_refl _,by go_num,am ga ge,gn.bl ge,O.out⟩
  ·(have gm:¬ (i:Int)<(nl.length:Int):=by omega);have O:=hid (show aZ F (.mk 13 ⟨#[]⟩ nl np)=true by rw [gj.out,←U,List.take_of_length_le (by omega)]);clear U;(go_wp2_with fail);go_ret;exact ⟨by rw [O.out];rfl,gg⟩
end
end Go.Proofs.YtiebcdeafofgdaaGreatDoor

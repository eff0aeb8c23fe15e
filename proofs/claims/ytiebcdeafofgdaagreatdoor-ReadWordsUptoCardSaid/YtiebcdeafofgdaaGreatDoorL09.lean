/-
  Parts of the proof: Uexpr3 Urange Sadd Sline Snl Sbyte Swhile Ssign. By an AI agent.
-/
import Derived.Test.YtiebcdeafofgdaaGreatDoorL08
import Derived.Test.YtiebcdeafofgdaaGreatDoorL07
import Derived.Test.YtiebcdeafofgdaaGreatDoorL03
import Derived.Test.YtiebcdeafofgdaaGreatDoorL04
import Derived.Test.YtiebcdeafofgdaaGreatDoorL01
import Derived.Lib.IndexBytes
import Derived.Deep.LoopGhost
import Derived.BigQuiet
set_option maxRecDepth 100000
set_option maxHeartbeats 8000000
namespace Go.Proofs.YtiebcdeafofgdaaGreatDoor
section
open Go.RowKit Go.Lib Go.Proofs
attribute [local go_sem ↓] Go.wp_at_zero Go.wp_at_succ
theorem D1 (d:Nat) (C:fM d) (nt:ByteArray) (nl:List Nd) (np:Int) (A:Option Addr) (cp:Nat) (w:World) (hv:ax w (.agg #[.int .i64 22,.string nt,.slice A nl.length cp,.int .i64 np]) (.mk 22 nt nl np)) (hd:cq (d+1) (.mk 22 nt nl np)) :
  Calls Tryz.prog 26 #[.agg #[.int .i64 22,.string nt,.slice A nl.length cp,.int .i64 np]] w fun e w'=>e=.returned (.bool (ay (aa d) (.mk 22 nt nl np)))∧Below w.heap.size w w':=by
 have HV:=hid hv;have HD:=hid hd;have gp:=hd.1.1;have HT:=hid C.typ;have HE:=hid C.expr;have hB:=(ae w #[.int .i64 22,.string nt,.slice A nl.length cp,.int .i64 np]).1;have gw:=(ae w #[.int .i64 22,.string nt,.slice A nl.length cp,.int .i64 np]).2;clear hv hd C;generalize aa d=F at *;simp only [Nd.kids_mk] at gp;have HR:=hid (show ay F (.mk 22 nt nl np)=(decide (nt=(⟨#[]⟩:BA))&&(decide (1<nl.length)&&(F.expr (nl.getD 0 eG)&&(nl.drop 1).all (cN F)))) by (simp [ay];rfl));by_cases h1:nt=⟨#[]⟩
 rotate_left
 ·(have gi:nt.toList.isEmpty=false:=by rw [af];simpa using h1);have J:=hid (show ay F (.mk 22 nt nl np)=false by rw [HR.out,decide_eq_false h1,Bool.false_and]);clear h1;(go_enter Tryz.func26,Tryz.ntmps26);(go_wp2_with fail);go_ret;exact ⟨by rw [J.out];rfl,hB⟩
 subst h1;by_cases h2:1<nl.length
 rotate_left
 ·(have gi:decide ((nl.length:Int)<2)=true:=by rw [decide_eq_true_iff];omega);have J:=hid (show ay F (.mk 22 ⟨#[]⟩ nl np)=false by rw [HR.out,decide_eq_false h2,Bool.false_and,Bool.and_false]);clear h2;generalize nl.length=m at *;(go_enter Tryz.func26,Tryz.ntmps26);(go_wp2_with fail);go_ret;exact ⟨by rw [J.out];rfl,hB⟩
 obtain ⟨x,l,rfl⟩:∃ x l,nl=x::l:=by
  rcases nl with _ | ⟨x,l⟩
  ·simp at h2
  ·exact ⟨x,l,rfl⟩
 (have gi:decide (((x::l).length:Int)<2)=false:=by rw [decide_eq_false_iff_not];omega);have gl:=hid (show ay F (.mk 22 ⟨#[]⟩ (x::l) np)=(F.expr x&&l.all (cN F)) by rw [HR.out,decide_eq_true h2];simp);(have gu:0<(x::l).length:=by simp);obtain ⟨bx,ox,A1,c1,hA,hx⟩:=aU HV.out 0 gu;simp only [Nd.kids_mk,List.getElem_cons_zero,Nat.zero_mul,Nat.add_zero] at hx;subst hA;have gd:=hid hx;have gv:=HD.out.kid (k:=x) (by simp);have ga:=hid (fun w' (h:C4 w' bx ox x A1 c1)=>HE.out _ x w' h.2.2.2.2 gv);(have gn:(x::l).length=l.length+1:=by simp);obtain ⟨y0,y1,y2,y3,-⟩:=gd.out.below hB;clear hx HR;generalize hm:(x::l).length=m at *;have ge:=hid gn;clear gn hm;cases q1:F.expr x with
 | false=>have J:=hid (show ay F (.mk 22 ⟨#[]⟩ (x::l) np)=false by rw [gl.out,q1,Bool.false_and]);rw [q1] at ga;(go_enter Tryz.func26,Tryz.ntmps26);(go_wp2_with fail);refine (ga.out _ (gd.out.below hB)).mono ?_;rintro e w1 ⟨rfl,gb⟩;(go_wp2_with fail);go_ret;exact ⟨by rw [J.out];rfl,am hB gb⟩
 | true=>
  have gh:=hid (show ay F (.mk 22 ⟨#[]⟩ (x::l) np)=l.all (cN F) by rw [gl.out,q1,Bool.true_and]);rw [q1] at ga;clear gl q1;(go_enter Tryz.func26,Tryz.ntmps26);(go_wp2_with fail);refine (ga.out _ (gd.out.below hB)).mono ?_;rintro e w1 ⟨rfl,gb⟩;have gs:=am hB gb;clear y0 y1 y2 y3 hB gw gb ga gd gi;(go_wp2_with fail);go_loopg [4] m (fun k u4 wr=>∃ i:Nat,1≤i∧i≤m∧m-i≤k∧u4=.int .i64 (i:Int)∧Below w.heap.size w wr∧(l.take (i-1)).all (cN F)=true)
  case atStart=>exact ⟨1,Nat.le_refl _,by omega,by omega,rfl,gs,rfl⟩
  case round=>
   clear gs;obtain ⟨i,gy,hi,hk,rfl,N,M⟩:=hrel;by_cases gx:i<m
   ·(have gm:(i:Int)<(m:Int):=by omega);(have h0:(0:Int)≤(i:Int):=by omega);(have gq:i-1<l.length:=by have:=ge.out;omega);obtain ⟨bp,op,A2,c2,yk,hp⟩:=aU (ai.below HV.out N) i (by have:=ge.out;simp;omega);(have gg:(x::l)[i]'(by have:=ge.out;simp;omega)=l[i-1]:=by obtain ⟨j,rfl⟩:∃ j,i=j+1:=⟨i-1,by omega⟩;simp);simp only [Nd.kids_mk,gg] at hp;injection yk with yk;injection yk with g1 g2;subst g1 g2;have K:=hid (show cN F l[i-1]=true→(l.take (i+1-1)).all (cN F)=true by intro h;rw [show i+1-1=i-1+1 by omega,List.take_succ_eq_append_getElem gq,List.all_append,M];simp [h]);have I:=hid (show cN F l[i-1]=false→ay F (.mk 22 ⟨#[]⟩ (x::l) np)=false by intro h;rw [gh.out,List.all_eq_false];exact ⟨_,List.getElem_mem gq,by simp [h]⟩);have gr:=HD.out.kid (k:=l[i-1]) (by simp);clear gg M;generalize l[i-1]=q at *;have HP:=hid hp;have U:=hid (HE.out _ q wr hp.2.2.2.2 gr);have O:=hid (fun w' (h:C4 w' bx (ox+i * 4) q A2 c2)=>HT.out _ q w' h.2.2.2.2 gr);obtain ⟨p0,p1,p2,p3,-⟩:=hp;unfold cN at K I;cases q3:F.expr q with
    | true=>
     have J:=hid (K.out (by simp [q3]));rw [q3] at U;clear q3 K I O;(go_wp2_with fail);refine (U.out).mono ?_;rintro e w3 ⟨rfl,D⟩;(go_wp2_with fail);go_roundg (m-(i+1))
     case measure=>omega
     case rel=>exact ⟨i+1,by omega,by omega,Nat.le_refl _,by go_num,am N D,J.out⟩
    | false=>
     rw [q3] at U;by_cases q4:q.kind=10
     ·(have gt:(q.kind==10)=true:=by simpa using q4);have J:=hid (I.out (by simp [q3,q4]));clear q3 q4 K I O;(go_wp2_with fail);refine (U.out).mono ?_;rintro e w3 ⟨rfl,D⟩;have u:=am N D;clear p0 p1 p2 p3;obtain ⟨p0,p1,p2,p3,-⟩:=HP.out.below D;(go_wp2_with fail);go_ret;exact ⟨by rw [J.out];rfl,u⟩
     (have gt:(q.kind==10)=false:=by simpa using q4);cases q5:F.typ q with
     | false=>have J:=hid (I.out (by simp [q3,q5]));rw [q5] at O;clear q3 q4 q5 K I;(go_wp2_with fail);refine (U.out).mono ?_;rintro e w3 ⟨rfl,D⟩;have u:=am N D;clear p0 p1 p2 p3;obtain ⟨p0,p1,p2,p3,-⟩:=HP.out.below D;(go_wp2_with fail);refine (O.out _ (HP.out.below D)).mono ?_;rintro e w4 ⟨rfl,gj⟩;(go_wp2_with fail);go_ret;exact ⟨by rw [J.out];rfl,am u gj⟩
     | true=>
      have J:=hid (K.out (by simp [q4,q5]));rw [q5] at O;clear q3 q4 q5 K I;(go_wp2_with fail);refine (U.out).mono ?_;rintro e w3 ⟨rfl,D⟩;have u:=am N D;clear p0 p1 p2 p3;obtain ⟨p0,p1,p2,p3,-⟩:=HP.out.below D;(go_wp2_with fail);refine (O.out _ (HP.out.below D)).mono ?_;rintro e w4 ⟨rfl,gj⟩;(go_wp2_with fail);go_roundg (m-(i+1))
      case measure=>omega
      case rel=>exact ⟨i+1,by omega,by omega,Nat.le_refl _,by go_num,am u gj,J.out⟩
   ·(have gm:¬ (i:Int)<(m:Int):=by omega);have J:=hid (show ay F (.mk 22 ⟨#[]⟩ (x::l) np)=true by rw [gh.out,←M,List.take_of_length_le (by have:=ge.out;omega)]);clear M;(go_wp2_with fail);go_ret;exact ⟨by rw [J.out];rfl,N⟩
theorem re (s:ByteArray) (i:Nat) (I:i<s.size):occAt s.data.toList [44] i=decide (bO s i=44):=by (have D:i<s.data.toList.length:=by simpa using I);unfold occAt bO;rw [List.drop_eq_getElem_cons D,List.getD_eq_getElem?_getD,List.getElem?_eq_getElem D];rw [Bool.eq_iff_iff,decide_eq_true_iff];simp only [List.isPrefixOf,Bool.and_true,beq_iff_eq,Option.getD_some];rw [←UInt8.toNat_inj];exact eq_comm
theorem FL (s:ByteArray) (i:Nat) (D:s.size≤i):occAt s.data.toList [44] i=false:=by unfold occAt;rw [List.drop_of_length_le (by simpa using D)];rfl
theorem rC (s:ByteArray) (i:Nat) (I:i<s.size) (hb:bO s i=44) (K:∀ j,j<i→bO s j≠44):be s=(aw (s.extract 0 i)&&bA (s.extract (i+1) s.size)):=by have J:Lib.index s.data.toList [44]=i:=index_first (by simp;omega) (by rw [re s i I,hb];rfl) (fun j hj=>by rw [re s j (by omega),decide_eq_false (K j hj)]);(have M:eK s=(s.data.toList.take i,s.data.toList.drop (i+1),true):=by unfold eK Lib.cut;rw [J,if_pos (by omega)];simp);(have D:s≠⟨#[]⟩:=by rintro rfl;simp [ByteArray.size] at I);(have O:(⟨(s.data.toList.take i).toArray⟩:ByteArray)=s.extract 0 i:=by apply ByteArray.ext;apply Array.toList_inj.1;rw [extract_data];simp);(have N:(⟨(s.data.toList.drop (i+1)).toArray⟩:ByteArray)=s.extract (i+1) s.size:=by apply ByteArray.ext;apply Array.toList_inj.1;rw [extract_data];rw [List.take_of_length_le (by simp)]);unfold be;rw [M,O,N,decide_eq_false D];simp
theorem ta (s:ByteArray) (I:∀ j,j<s.size→bO s j≠44):be s=(decide (s=(⟨#[]⟩:BA))||bA s):=by
 have D:Lib.index s.data.toList [44] = -1:=index_none (fun j _=>by
  by_cases h:j<s.size
  ·rw [re s j h,decide_eq_false (I j h)]
  ·exact FL s j (by omega))
 (have J:eK s=(s.data.toList,[],false):=by unfold eK Lib.cut;rw [D,if_neg (by decide)]);(have K:(⟨s.data.toList.toArray⟩:ByteArray)=s:=by apply ByteArray.ext;simp);unfold be;rw [J,K];simp
theorem me (s:ByteArray) (hs:s.size≤1000000000) (w:World):Calls Tryz.prog 55 #[.string s] w fun e w'=>e=.returned (.bool (be s))∧Below w.heap.size w w':=by
 (go_enter Tryz.func55,Tryz.ntmps55);(go_wp2_with fail);go_loopg [3] s.size (fun k u3 wr=>∃ i:Nat,i≤s.size∧s.size-i≤k∧u3=.int .i64 (i:Int)∧w=wr∧∀ j,j<i→bO s j≠44)
 case atStart=>exact ⟨0,Nat.zero_le _,by omega,rfl,rfl,fun j hj=>by omega⟩
 case round=>
  obtain ⟨i,hi,hk,rfl,rfl,I⟩:=hrel;have u:=hid I;clear I;by_cases O:i<s.size
  ·(have N:(i:Int)<(s.size:Int):=by omega);have hb:=fun W=>i9 s i O W;by_cases U:bO s i=44
   ·have h:=hid (rC s i O U u.out);rw [U] at hb;(have p0:(0:Int)≤(i:Int):=by omega);(have p1:(i:Int)≤(s.size:Int):=by omega);(have p2:(0:Int)≤(i:Int)+1:=by omega);(have p3:(i:Int)+1≤(s.size:Int):=by omega);have q1:IntKind.i64.wrap ((i:Int)+1)=(i:Int)+1:=IntWalk.i64_in _ (by omega);(have q2:((i:Int)+1).toNat=i+1:=by omega);clear U;cases D:aw (s.extract 0 i) with
    | false=>have M:=hid (show be s=false by rw [h.out,D,Bool.false_and]);(go_wp2_with fail);refine (aB _ _).mono ?_;rw [D];rintro e w1 ⟨rfl,K⟩;(go_wp2_with fail);go_ret;exact ⟨by rw [M.out];rfl,K⟩
    | true=>have M:=hid (show be s=bA (s.extract (i+1) s.size) by rw [h.out,D,Bool.true_and]);(go_wp2_with fail);refine (aB _ _).mono ?_;rw [D];rintro e w1 ⟨rfl,K⟩;(go_wp2_with fail);refine (lx _ _).mono ?_;rintro e w2 ⟨rfl,J⟩;(go_wp2_with fail);go_ret;exact ⟨by rw [M.out];rfl,am K J⟩
   ·(have ga:((bO s i:Int)==44)=false:=by rw [beq_eq_false_iff_ne];omega);have q:=hid (show ∀ j,j<i+1→bO s j≠44 by
     intro j hj;by_cases e:j=i
     ·subst e;exact U
     ·exact u.out j (by omega))
    clear U;(go_wp2_with fail);go_roundg (s.size-(i+1))
    case measure=>omega
    case rel=>exact ⟨i+1,by omega,Nat.le_refl _,by go_num,rfl,q.out⟩
  ·(have N:¬ (i:Int)<(s.size:Int):=by omega);have h:=hid (ta s (fun j hj=>u.out j (by omega)));cases D:s.toList.isEmpty with
   | true=>have M:=hid (show be s=true by rw [af] at D;rw [h.out,D,Bool.true_or]);(go_wp2_with fail);go_ret;exact ⟨by rw [M.out];rfl,Below.refl _ _⟩
   | false=>have M:=hid (show be s=bA s by rw [af] at D;rw [h.out,D,Bool.false_or]);(go_wp2_with fail);refine (lx _ _).mono ?_;rintro e w2 ⟨rfl,J⟩;(go_wp2_with fail);go_ret;exact ⟨by rw [M.out];rfl,J⟩
end
section
open Go.RowKit Go.Lib Go.Proofs
attribute [local go_sem ↓] Go.wp_at_zero Go.wp_at_succ
attribute [local go_sem] bg bh bi
theorem fp (X:Nat) (s:ByteArray) (i:Nat) (l:List cK) (k:Int) (j:Nat) (hj:j≤i) (q:l.length+1≤65537) (w:World) (h:eo w X s i l) :
  Calls Tryz.prog 101 #[.pointer (some ⟨X,0,none⟩),.int .i64 k,.int .i64 (j:Int)] w (ne X s w i (l++[⟨k,s.extract j i,j⟩]) (.tuple #[])):=by
 obtain ⟨lv,nv,ns,D⟩:=h.out;have hb:=D.blk;have O:=D.toks;have U:=hb.lt;have M:=h.le;have J:=h.most;obtain ⟨A0,c0,K,_⟩:=O.form;subst K;obtain ⟨x0,x1,x2,x3,f0,f1,f2,f3⟩:=ac hb;(have p0:(0:Int)≤(j:Int):=by omega);(have p1:(j:Int)≤(i:Int):=by omega);(have p2:(i:Int)≤(s.size:Int):=by omega);(go_enter Tryz.func101,Tryz.ntmps101);(go_wp2_with fail);go_region_law (first
  | (refine fZ (by rfl) (.tmp 10) (.tmp 24) (by rfl) (X+1) _ _ l ⟨k,s.extract j i,j⟩ (by rfl) _ (by rfl) (by simp) (O.below (Below.refl _ _).drew) (by simp;omega) (by omega) ?_;intro g c w1 I;have N:=(ar.drew hb).below I.bel (Nat.lt_succ_self _);obtain ⟨z0,z1,z2,u,y0,y1,y2,y3⟩:=ac N))
 all_goals go_end0;exact ⟨rfl,⟨⟨_,nv,ns,(D.below (Below.refl _ _).drew).row I⟩,M,J,by rw [List.length_append];simpa using q⟩,((Below.refl X w).drew.trans (I.bel.mono (Nat.le_succ _))).setCell (Nat.le_refl _) _⟩
def iV:ByteArray:=(⟨#[32,43,43,32,45,45,32,41,32,93,32,125,32]⟩:BA)
def lO (t:cK):Bool:=
 if t.kind=1∨t.kind=4∨t.kind=5 then true
 else if t.kind=2∨t.kind=3 then decide (t.text=(⟨#[98,114,101,97,107]⟩:BA))||(decide (t.text=(⟨#[99,111,110,116,105,110,117,101]⟩:BA))||(decide (t.text=(⟨#[114,101,116,117,114,110]⟩:BA))||decide (t.text=(⟨#[102,97,108,108,116,104,114,111,117,103,104]⟩:BA))))
 else Lib.contains iV.data.toList ((⟨#[32]⟩++t.text++⟨#[32]⟩:ByteArray)).data.toList
def cP (l:List cK):Bool:=match l.getLast? with
 | none=>false
 | some t=>lO t
theorem fc.at_ {B:Nat} {w:World} {v:Value} {l:List cK} (h:fc B w v l) (i:Nat) (D:i<l.length) :
  ∃ g c,v=.slice (some ⟨g,0,none⟩) l.length c∧B≤g∧g<w.heap.size∧w.cell? ⟨g,i * 3,none⟩=some (.int .i64 l[i].kind)∧w.cell? ⟨g,i * 3+1,none⟩=some (.string l[i].text)∧w.cell? ⟨g,i * 3+2,none⟩=some (.int .i64 l[i].pos):=by obtain ⟨g,c,I,q,J⟩:=World.ownsRow.form h (by omega);obtain ⟨A,c',e,_⟩:=h.form;rw [I] at e;injection e with e1 e2 e3;subst e1 e3;have j:=bB.of_own (I▸h:w.ownsRow B _ 3 (.slice (some ⟨g,0,none⟩) l.length c) l.length (l.flatMap nM));obtain ⟨b,off,M,hb,K⟩:=j.el fY (by omega) rfl D;injection M with M;injection M with e4 e5;subst e4 e5;have U:=K i D 0 _ rfl;have O:=K i D 1 _ rfl;have N:=K i D 2 _ rfl;simp only [Nat.zero_add,Nat.add_zero] at U O N;exact ⟨g,c,I,q,J,U,O,N⟩
theorem Ir {w:World} {g:Nat} {t:TypeId} {a b c:Value} (h:ar w g t #[a,b,c]):w.cell? ⟨g,0,none⟩=some a∧w.cell? ⟨g,1,none⟩=some b∧w.cell? ⟨g,2,none⟩=some c:=by have c0:=h.cell 0;have c1:=h.cell 1;have c2:=h.cell 2;simp at c0 c1 c2;exact ⟨c0,c1,c2⟩
theorem uQ (X:Nat) (s:ByteArray) (i:Nat) (l:List cK) (w:World) (h:eo w X s i l) (hT:bR w) (K:∀ t∈l,t.text.size≤65536) :
  Calls Tryz.prog 106 #[.pointer (some ⟨X,0,none⟩)] w fun e w'=>e=.returned (.bool (cP l))∧Below w.heap.size w w':=by
 obtain ⟨lv,nv,ns,N⟩:=h.out;have hb:=N.blk;have hO:=N.toks;have gg:=hb.lt;have gb:=h.few;obtain ⟨A0,c0,M,gd⟩:=hO.form;obtain ⟨x0,x1,u,x3,-,-,-,-⟩:=ac hb;rw [M] at u;by_cases hl:l.length=0
 ·have hE:=hid (show cP l=false by rw [List.eq_nil_of_length_eq_zero hl];rfl);rw [hl] at u;(go_enter Tryz.func106,Tryz.ntmps106);(go_wp2_with fail);go_ret;exact ⟨by rw [hE.out];rfl,Below.refl _ _⟩
 ·obtain ⟨g,c,hv,hg,gh,k0,k1,k2⟩:=hO.at_ (l.length-1) (by omega);rw [M] at hv;injection hv with e1 e2 e3;subst e1 e3;(have J:l.getLast? = some (l[l.length-1]'(by omega)):=by rw [List.getLast?_eq_getElem?,List.getElem?_eq_getElem]);have HE:=hid (show cP l=lO (l[l.length-1]'(by omega)) by unfold cP;rw [J]);have ga:=hid (K _ (List.getElem_mem (show l.length-1<l.length by omega)));generalize l[l.length-1]'(by omega)=t at *;obtain ⟨tk,tt,tp⟩:=t;simp only at k0 k1 k2;(have ge:((l.length:Int)==0)=false:=by rw [beq_eq_false_iff_ne];omega);(have p1:(0:Int)≤(l.length:Int)-1:=by omega);(have p2:(l.length:Int)-1<(l.length:Int):=by omega);(have p3:(1:Int)≤(l.length:Int):=by omega);(have q2:((l.length:Int)-1).toNat=l.length-1:=by omega);have q1:IntKind.i64.wrap ((l.length:Int)-1)=(l.length:Int)-1:=IntWalk.i64_in _ (by omega);have HT:=hid hT;clear J hT K;(go_enter Tryz.func106,Tryz.ntmps106);(go_upto_region 3 with fail);go_cut [3] (fun s3 wx=>∃ b,s3=.pointer (some ⟨b,0,none⟩)∧ar wx b 43 #[.int .i64 tk,.string tt,.int .i64 tp]∧Below w.heap.size w wx)
  case first=>go_region_law (fail);all_goals (go_wp2_with fail);go_meet;exact ⟨_,rfl,(ar.new _ _ _).drew,((Below.refl _ _).alloc (Nat.le_refl _) _).drew⟩
  case rest=>
   obtain ⟨b,rfl,hB,D⟩:=hcut;obtain ⟨y0,y1,y2⟩:=Ir hB;have U:=hid (cO iV (⟨#[32]⟩++tt++⟨#[32]⟩) wc (HT.out.below D) (by unfold iV;simp [ByteArray.size]));clear k0 k1 k2 x0 x1 u x3 hB;by_cases O:tk=1∨tk=4∨tk=5
   ·have I:=hid (show cP l=true by rw [HE.out,lO,if_pos O]);rcases O with rfl | rfl | rfl;all_goals (go_wp2_with fail);go_ret;exact ⟨by rw [I.out];rfl,D⟩
   ·by_cases j:tk=2∨tk=3
    ·have I:=hid (show cP l=((tt.toList==[98,114,101,97,107])||((tt.toList==[99,111,110,116,105,110,117,101])||((tt.toList==[114,101,116,117,114,110])||(tt.toList==[102,97,108,108,116,104,114,111,117,103,104])))) by rw [HE.out,lO,if_neg O,if_pos j,←bq tt [98,114,101,97,107],←bq tt [99,111,110,116,105,110,117,101],←bq tt [114,101,116,117,114,110],←bq tt [102,97,108,108,116,104,114,111,117,103,104]]);cases g1:(tt.toList==[98,114,101,97,107]) <;> cases g2:(tt.toList==[99,111,110,116,105,110,117,101]) <;> cases g3:(tt.toList==[114,101,116,117,114,110]) <;> cases g4:(tt.toList==[102,97,108,108,116,104,114,111,117,103,104]) <;> rcases j with rfl | rfl
     all_goals rw [g1,g2,g3,g4] at I;(go_wp2_with fail);go_ret;exact ⟨by rw [I.out];rfl,D⟩
    ·have I:=hid (show cP l=Lib.contains iV.data.toList ((⟨#[32]⟩++tt++⟨#[32]⟩:ByteArray)).data.toList by rw [HE.out,lO,if_neg O,if_neg j]);generalize Lib.contains iV.data.toList ((⟨#[32]⟩++tt++⟨#[32]⟩:ByteArray)).data.toList=q at *;(have e1:(tk==1)=false:=by rw [beq_eq_false_iff_ne];omega);(have e2:(tk==2)=false:=by rw [beq_eq_false_iff_ne];omega);(have e3:(tk==3)=false:=by rw [beq_eq_false_iff_ne];omega);(have e4:(tk==4)=false:=by rw [beq_eq_false_iff_ne];omega);(have e5:(tk==5)=false:=by rw [beq_eq_false_iff_ne];omega);clear O j;unfold iV at U;have K:tt.size≤65536:=ga.out;(go_wp2_with fail);refine U.out.mono ?_;rintro e w2 ⟨rfl,rfl⟩;(go_wp2_with fail);go_ret;exact ⟨by rw [I.out];rfl,D⟩
end
section
open Go.RowKit Go.Lib Go.Proofs
attribute [local go_sem ↓] Go.wp_at_zero Go.wp_at_succ
def dc (l:List cK) (p:Int):List cK:=if cP l=true then l++[⟨6,⟨#[10]⟩,p⟩] else l
theorem pl (X:Nat) (s:ByteArray) (i:Nat) (l:List cK) (p:Int) (hl:l.length+1≤65537) (w:World) (h:eo w X s i l) (hT:bR w) (j:∀ t∈l,t.text.size≤65536) :
  Calls Tryz.prog 74 #[.pointer (some ⟨X,0,none⟩),.int .i64 p] w (ne X s w i (dc l p) (.tuple #[])):=by
 have U:=hid (uQ X s i l w h hT j);have N:=h.lt;cases K:cP l with
 | false=>have HL:=hid (show dc l p=l by unfold dc;rw [if_neg (by rw [K];decide)]);rw [K] at U;clear K;(go_enter Tryz.func74,Tryz.ntmps74);(go_wp2_with fail);refine U.out.mono ?_;rintro e w1 ⟨rfl,D⟩;(go_wp2_with fail);go_end0;rw [HL.out];exact ⟨rfl,h.below D,D.mono (Nat.le_of_lt N)⟩
 | true=>have HL:=hid (show dc l p=l++[⟨6,⟨#[10]⟩,p⟩] by unfold dc;rw [if_pos K]);rw [K] at U;clear K;(go_enter Tryz.func74,Tryz.ntmps74);(go_wp2_with fail);refine U.out.mono ?_;rintro e w1 ⟨rfl,D⟩;have h1:=h.below D;have O:=h1.le;have M:=h1.most;obtain ⟨lv,nv,ns,I⟩:=h1.out;have hb:=I.blk;have hO:=I.toks;obtain ⟨A0,c0,q,_⟩:=hO.form;subst q;obtain ⟨x0,x1,x2,x3,f0,f1,f2,f3⟩:=ac hb;have ga:=hb.lt;go_wp2_with (at_builtin;refine sm rfl (.tmp 10) (.tmp 13) rfl (X+1) _ _ l ⟨6,⟨#[10]⟩,p⟩ rfl _ rfl (by simp) hO (by omega) (by omega) ?_;intro g c w2 J;have u:=hb.below J.bel (Nat.lt_succ_self _);obtain ⟨z0,z1,z2,z3,y0,y1,y2,y3⟩:=ac u);go_end0;rw [HL.out];exact ⟨rfl,⟨⟨_,nv,ns,I.row J⟩,O,M,by rw [List.length_append];simpa using hl⟩,((D.mono (Nat.le_of_lt N)).trans (J.bel.mono (Nat.le_succ _))).setCell (Nat.le_refl _) _⟩
theorem dD (s:ByteArray) (i:Nat) (D:i<s.size) (W:World):(Instr.index 9 (.string s) (.int .i64 (i:Int))).run Tryz.prog W=.ok (.int .u8 (ab s i:Int)) W:=by rw [run_index_string (P:=Tryz.prog) W 9 s .i64 (i:Int) Tryz.underlying9];simp [ab,D];rfl
def aG (c:Int):Bool:=aA c||ao c
def bP (l:List UInt8):Nat:=(l.takeWhile fun c=>aG (c.toNat:Int)).length
theorem lp {α:Type} [Inhabited α] (p:α→Bool):∀ (l:List α) (j:Nat),j≤l.length→(∀ k,k<j→p (l.getD k default)=true)→(j<l.length→p (l.getD j default)=false)→(l.takeWhile p).length=j
 | [],j,h,_,_=>by simp at h;simp [h]
 | x::l,0,_,_,h=>by have:=h (by simp);rw [List.takeWhile_cons,if_neg (by simpa using this)];rfl
 | x::l,j+1,I,D,J=>by have K:=D 0 (by omega);rw [List.takeWhile_cons,if_pos (by simpa using K),List.length_cons,lp p l j (by simpa using I) (fun k hk=>by simpa using D (k+1) (by omega)) (fun h=>by simpa using J (by simpa using h))]
theorem dr (s:ByteArray) (i:Nat):(s.extract i s.size).data.toList=s.data.toList.drop i:=by rw [ByteArray.data_extract,Array.toList_extract];rw [List.extract_eq_take_drop];exact List.take_of_length_le (by rw [List.length_drop];exact Nat.le_of_eq rfl)
theorem dt (s:ByteArray) (i:Nat):(s.extract i s.size).size=s.size-i:=by have:=congrArg List.length (dr s i);rw [List.length_drop] at this;exact this
theorem F9 (a:Array Value) (w:World):(callFunc 99 a).run Tryz.prog w=.ok (.enter 99 a) w:=by kernel_rfl
theorem Ga (a:Array Value) (w:World):(callFunc 103 a).run Tryz.prog w=.ok (.enter 103 a) w:=by kernel_rfl
theorem Gb (c:Int) (w:World):Calls Tryz.prog 99 #[.int .i32 c] w fun e w'=>e=.returned (.bool (aG c))∧w=w':=by
 unfold aG;cases D:aA c <;> cases I:ao c;all_goals
  (go_enter Tryz.func99,Tryz.ntmps99);(go_wp2_with fail);refine (cV _ _).mono ?_;rw [D];rintro e w1 ⟨rfl,rfl⟩;(go_wp2_with fail);try
   refine (eD _ _).mono ?_
   rw [I]
   rintro e w1 ⟨rfl,rfl⟩
   go_wp2_with fail
  go_ret;exact ⟨rfl,rfl⟩
theorem Gc (c:Int) (w:World):Calls Tryz.prog 103 #[.int .i32 c] w fun e w'=>e=.returned (.bool (aG c))∧w=w':=by
 unfold aG;cases D:aA c <;> cases I:ao c;all_goals
  (go_enter Tryz.func103,Tryz.ntmps103);(go_wp2_with fail);refine (cV _ _).mono ?_;rw [D];rintro e w1 ⟨rfl,rfl⟩;(go_wp2_with fail);try
   refine (eD _ _).mono ?_
   rw [I]
   rintro e w1 ⟨rfl,rfl⟩
   go_wp2_with fail
  go_ret;exact ⟨rfl,rfl⟩
theorem mD {c:Int} (h:128≤c):aG c=false:=by unfold aG;rw [fJ h,dC h];rfl
theorem rG (f:FuncId) (hf:∀ a w,(callFunc f a).run Tryz.prog w=.ok (.enter f a) w) (hC:∀ (c:Int) (w:World),Calls Tryz.prog f #[.int .i32 c] w fun e w'=>e=.returned (.bool (aG c))∧w=w')
  (X:Nat) (s:ByteArray) (i:Nat) (l:List cK) (w:World) (h:eo w X s i l) :
  Calls Tryz.prog 98 #[.pointer (some ⟨X,0,none⟩),.func (.func f) #[] #[]] w (ne X s w (i+bP (s.data.toList.drop i)) l (.tuple #[])):=by
 obtain ⟨lv,nv,ns,gq⟩:=h.out;have hb:=gq.blk;have ge:=hb.lt;have gm:=h.le;have gu:=h.most;have HH:=hid h;obtain ⟨x0,x1,x2,x3,f0,f1,f2,f3⟩:=ac hb;(have p0:(0:Int)≤(i:Int):=by omega);(have p2:(i:Int)≤(s.size:Int):=by omega);(go_enter Tryz.func98,Tryz.ntmps98);(go_upto_region 0 with fail);go_cut [15] (fun gi wx=>∃ b,gi=.pointer (some ⟨b,0,none⟩)∧wx.heap[b]? = some (.stringIter (s.extract i s.size) 0)∧w.heap.size≤b∧Below w.heap.size w wx)
 case first=>go_region_law (fail);(all_goals go_wp2_with fail);all_goals go_meet;exact ⟨_,rfl,World.iter_heap w.drew _ 0,Nat.le_refl _,((Below.refl w.heap.size w).drew.alloc (Nat.le_refl _) _)⟩
 case rest=>
  obtain ⟨b,rfl,hit,gp,u⟩:=hcut;have HT:=hid (dr s i);have gr:=hid (dt s i);generalize s.extract i s.size=t at *;have gt:t.size=s.size-i:=gr.out;clear x0 x1 x2 x3 f0 f1 f2 f3;(go_wp2_with fail);go_loopg [4,5,16,17] t.size (fun g _ _ _ _ wr=>∃ j:Nat,j≤t.size∧t.size-j≤g∧wr.heap[b]? = some (.stringIter t j)∧Below w.heap.size w wr∧(∀ k,k<j→aG ((t.data.toList.getD k 0).toNat:Int)=true))
  case atStart=>exact ⟨0,Nat.zero_le _,by omega,hit,u,fun k hk=>by omega⟩
  case round=>
   clear hit u;obtain ⟨j,hj,hg,hit,hB,U⟩:=hrel;have gd:=hid hit;have HA:=hid U;clear hit U;by_cases I:j<t.size
   ·have hw:=mM t j I;have ga:=lo t j I;have J:=fun ty=>run_next_any_at (P:=Tryz.prog) wr b t j ty gd.out I;generalize hbb:(t.data.toList.getD j 0).toNat=bb at *;generalize hd:Utf8.decode t j=q at *;obtain ⟨r,k⟩:=q;simp only at hw J ga;have O:aG (r:Int)=aG (bb:Int)∧(aG (r:Int)=true→k=1):=by
     rcases ga with ⟨e,_⟩ | ⟨h1,h2⟩
     ·injection e with e1 e2;subst e1 e2;exact ⟨rfl,fun _=>rfl⟩
     ·rw [mD (by omega),mD (by omega)];exact ⟨rfl,by simp⟩
    have gh:=hid hbb;have D:=hid O;have j1:=iterAt_heap wr b t j (j+k) gd.out;have j2:Below w.heap.size w (wr.iterAt b t (j+k)):=b8 hB gp;generalize wr.iterAt b t (j+k)=W1 at J j1 j2;have J1:=hid j1;have M:=HH.out.below j2;obtain ⟨gl,gj,yk,K⟩:=M.out;have gb:=K.blk;obtain ⟨x0,x1,x2,x3,f0,f1,f2,f3⟩:=ac gb;clear O ga j1 hd hbb;cases hW:aG (r:Int) with
    | true=>
     have hk:=D.out.2 hW;have gg:=hid (show ∀ k',k'<j+k→aG ((t.data.toList.getD k' 0).toNat:Int)=true by
      intro k' hk';by_cases e:k'=j
      ·subst e;rw [gh.out,←D.out.1,hW]
      ·exact HA.out k' (by omega))
     clear x0 x1 x2 x3 f0 f1 f2 f3 D HA;(go_wp2_with fail);refine (hC _ _).mono ?_;rw [hW];rintro e w1 ⟨rfl,rfl⟩;(go_wp2_with fail);go_roundg (t.size-(j+k))
     case measure=>omega
     case rel=>exact ⟨j+k,hw.2,Nat.le_refl _,J1.out,j2,gg.out⟩
    | false=>have HL:=hid (show i+bP (s.data.toList.drop i)=i+j by rw [←HT.out];congr 1;refine lp _ _ j (by simpa using hj) (fun k' hk'=>HA.out k' hk') (fun _=>?_);have:=D.out.1;rw [hW,←gh.out] at this;exact this.symm);clear D HA;(go_wp2_with fail);refine (hC _ _).mono ?_;rw [hW];rintro e w1 ⟨rfl,rfl⟩;have q1:IntKind.i64.wrap ((i:Int)+(j:Int))=(i:Int)+(j:Int):=IntWalk.i64_in _ (by omega);(go_wp2_with fail);refine bodyPost_ret (results_none rfl _ _ _) rfl ?_;rw [HL.out];have N:=M.set (i+j) (by omega) (by omega);rw [show ((i+j:Nat):Int)=(i:Int)+(j:Int) by omega] at N;exact ⟨rfl,N,(j2.mono (Nat.le_of_lt ge)).setCell (Nat.le_refl _) _⟩
   ·(have gn:j=t.size:=by omega);have HL:=hid (show i+bP (s.data.toList.drop i)=s.size by rw [←HT.out,show bP t.data.toList=j from lp _ _ j (by simpa using hj) (fun k' hk'=>HA.out k' hk') (fun h=>absurd h (by rw [gn];simp))];omega);have gs:=fun ty=>run_next_end_at (P:=Tryz.prog) wr b t j ty gd.out I;have M:=HH.out.below hB;obtain ⟨gl,gj,yk,K⟩:=M.out;have gb:=K.blk;obtain ⟨x0,x1,x2,x3,f0,f1,f2,f3⟩:=ac gb;(go_wp2_with fail);go_end0;rw [HL.out];exact ⟨rfl,M.set s.size gm (Nat.le_refl _),(hB.mono (Nat.le_of_lt ge)).setCell (Nat.le_refl _) _⟩
theorem bS (s p:ByteArray) (w:World):Calls Tryz.prog 95 #[.string s,.string p] w fun e w'=>e=.returned (.bool (Lib.hasPrefix s.data.toList p.data.toList))∧w=w':=
 (Any.strings_HasPrefix Tryz.laysPrefix s p w).mono fun _ _ h=>⟨h.1,h.2.symm⟩
theorem ro (s:ByteArray) (c:Int) (w:World):Calls Tryz.prog 115 #[.string s,.int .u8 c] w fun e w'=>e=.returned (.int .i64 (Lib.indexByte s.data.toList (UInt8.ofNat c.toNat)))∧w=w':=
 (Any.strings_IndexByte Tryz.laysIndexByte s c w).mono fun _ _ h=>⟨h.1,h.2.symm⟩
theorem Aq (s sub:ByteArray) (w:World) (I:bR w) (hs:s.size≤2000000000) :
  Calls Tryz.prog 108 #[.string s,.string sub] w fun e w'=>e=.returned (.int .i64 (Lib.index s.data.toList sub.data.toList))∧w=w':=by obtain ⟨m,D⟩:=I;exact (Any.strings_Index Tryz.laysIndex s sub m w (by omega) D).mono fun _ _ h=>⟨h.1,h.2.symm⟩
def dv (p:Nat):Ending:=.panicked [{ v:=.iface 83 (.agg #[.int .i64 (p:Int)]),recovered:=false }]
theorem fg (X:Nat) (p:Int) (w:World):Calls Tryz.prog 142 #[.pointer (some ⟨X,0,none⟩),.bool true,.int .i64 p] w fun e w'=>e=.returned (.tuple #[])∧w=w':=by (go_enter Tryz.func142,Tryz.ntmps142);(go_wp2_with fail);go_end0;exact ⟨rfl,rfl⟩
theorem dV (X:Nat) (p:Nat) (w:World):Calls Tryz.prog 142 #[.pointer (some ⟨X,0,none⟩),.bool false,.int .i64 (p:Int)] w fun e w'=>e=dv p∧w=w':=by (go_enter Tryz.func142,Tryz.ntmps142);(go_wp2_with fail);exact ⟨rfl,rfl,rfl⟩
inductive Gg where
 | go (i:Nat) (l:List cK)
 | bad (p:Nat)
def d9 (X:Nat) (s:ByteArray) (w:World) (r:Gg) (v:Value) (e:Ending) (w':World):Prop:=
 match r with
 | .go i l=>ne X s w i l v e w'
 | .bad p=>e=dv p∧Below X w w'
def mO:ByteArray:=(⟨#[60,60,61,32,62,62,61,32,38,94,61,32,46,46,46]⟩:BA)
def nf:ByteArray:=(⟨#[38,38,32,124,124,32,61,61,32,33,61,32,60,61,32,62,61,32,58,61,32,43,43,32,45,45,32,43,61,32,45,61,32,42,61,32,47,61,32,37,61,32,38,61,32,124,61,32,94,61,32,60,60,32,62,62,32,38,94,32,60,45]⟩:BA)
def oN:ByteArray:=(⟨#[43,32,45,32,42,32,47,32,37,32,38,32,124,32,94,32,60,32,62,32,61,32,33,32,40,32,41,32,91,32,93,32,123,32,125,32,44,32,59,32,46,32,58,32,126]⟩:BA)
theorem tw {fn:Func} {q:Tmp} {ty:TypeId} (I:fn.results = #[.cell q 125]) (tmps:Array Value) {w:World} {g:Nat} {a b c:Value} (J:tmps.getD q undef=.pointer (some ⟨g,0,none⟩)) (hb:ar w g ty #[a,b,c]) :
  (results fn tmps).run Tryz.prog w=.ok (.agg #[a,b,c]) w:=by obtain ⟨N,M,K⟩:=Ir hb;unfold results;rw [I];(have D:tmps[q]?.getD undef=.pointer (some ⟨g,0,none⟩):=by simpa using J);simp [D,go_sem,N,M,K]
theorem Ar (w:World):Calls Tryz.prog 143 #[] w fun e w'=>e=.returned (.agg #[.string mO,.string nf,.string oN])∧Below w.heap.size w w':=by (go_enter Tryz.func143,Tryz.ntmps143);(go_wp2_with fail);refine bodyPost_ret (tw (ty:=125) rfl _ (g:=w.heap.size) (by rfl) (a:=.string mO) (b:=.string nf) (c:=.string oN) (ar.new w _ _)) rfl ?_;exact ⟨rfl,(Below.refl _ _).alloc (Nat.le_refl _) _⟩
theorem su (a b c:ByteArray) (i:Nat) (D:i<3) (w:World):(Instr.index 125 (.agg #[.string a,.string b,.string c]) (.int .i64 (i:Int))).run Tryz.prog w=.ok (.string (if i=0 then a else if i=1 then b else c)) w:=by
 rcases i with _ | _ | _ | i
 ·simp [Instr.index,run_underlying Tryz.underlying125,asIntOf,go_sem]
 ·simp [Instr.index,run_underlying Tryz.underlying125,asIntOf,go_sem]
 ·simp [Instr.index,run_underlying Tryz.underlying125,asIntOf,go_sem]
 ·omega
def ir (row:ByteArray) (t:ByteArray) (n:Nat):Bool:=Lib.contains ((⟨#[32]⟩++row++⟨#[32]⟩:ByteArray)).data.toList ((⟨#[32]⟩++t.extract 0 n++⟨#[32]⟩:ByteArray)).data.toList
def cQ (s:ByteArray) (i:Nat):Nat:=
 if 3≤s.size-i∧ir mO (s.extract i s.size) 3=true then 3
 else if 2≤s.size-i∧ir nf (s.extract i s.size) 2=true then 2
 else if 1≤s.size-i∧ir oN (s.extract i s.size) 1=true then 1
 else 0
def f8 (s:ByteArray) (i:Nat) (l:List cK):Gg:=
 if cQ s i=0 then .bad i else .go (i+cQ s i) (l++[⟨6,s.extract i (i+cQ s i),i⟩])
theorem BZ (X:Nat) (s:ByteArray) (i:Nat) (l:List cK) (w:World) (h:eo w X s i l) (hT:bR w) (hl:l.length+1≤65537) (hi:i<s.size) :
  Calls Tryz.prog 105 #[.pointer (some ⟨X,0,none⟩)] w (d9 X s w (f8 s i l) (.tuple #[])):=by
 obtain ⟨lv,nv,ns,gi⟩:=h.out;have hb:=gi.blk;have gw:=h.le;have gv:=h.most;have j:=hb.lt;have HH:=hid h;obtain ⟨x0,x1,x2,x3,-,-,-,-⟩:=ac hb;(have p0:(0:Int)≤(i:Int):=by omega);(have p2:(i:Int)≤(s.size:Int):=by omega);have gb:=dt s i;have K:=hid (show cQ s i=if 3≤(s.extract i s.size).size∧ir mO (s.extract i s.size) 3=true then 3 else if 2≤(s.extract i s.size).size∧ir nf (s.extract i s.size) 2=true then 2 else if 1≤(s.extract i s.size).size∧ir oN (s.extract i s.size) 1=true then 1 else 0 by rw [gb];rfl);have H3:=hid (fun w' (hb:Below w.heap.size w w')=>cO (⟨#[32]⟩++mO++⟨#[32]⟩) (⟨#[32]⟩++(s.extract i s.size).extract 0 3++⟨#[32]⟩) w' (hT.below hb) (Nat.le_trans (show _≤100 by decide +kernel) (by omega)));have H2:=hid (fun w' (hb:Below w.heap.size w w')=>cO (⟨#[32]⟩++nf++⟨#[32]⟩) (⟨#[32]⟩++(s.extract i s.size).extract 0 2++⟨#[32]⟩) w' (hT.below hb) (Nat.le_trans (show _≤100 by decide +kernel) (by omega)));have H1:=hid (fun w' (hb:Below w.heap.size w w')=>cO (⟨#[32]⟩++oN++⟨#[32]⟩) (⟨#[32]⟩++(s.extract i s.size).extract 0 1++⟨#[32]⟩) w' (hT.below hb) (Nat.le_trans (show _≤100 by decide +kernel) (by omega)));rw [show Lib.contains ((⟨#[32]⟩++oN++⟨#[32]⟩:ByteArray)).data.toList ((⟨#[32]⟩++(s.extract i s.size).extract 0 1++⟨#[32]⟩:ByteArray)).data.toList=ir oN (s.extract i s.size) 1 from rfl] at H1;rw [show Lib.contains ((⟨#[32]⟩++nf++⟨#[32]⟩:ByteArray)).data.toList ((⟨#[32]⟩++(s.extract i s.size).extract 0 2++⟨#[32]⟩:ByteArray)).data.toList=ir nf (s.extract i s.size) 2 from rfl] at H2;rw [show Lib.contains ((⟨#[32]⟩++mO++⟨#[32]⟩:ByteArray)).data.toList ((⟨#[32]⟩++(s.extract i s.size).extract 0 3++⟨#[32]⟩:ByteArray)).data.toList=ir mO (s.extract i s.size) 3 from rfl] at H3;clear hT;generalize ir mO (s.extract i s.size) 3=c3 at *;generalize ir nf (s.extract i s.size) 2=c2 at *;generalize ir oN (s.extract i s.size) 1=c1 at *;(have g3:mO.size≤100:=by decide +kernel);(have g2:nf.size≤100:=by decide +kernel);(have g1:oN.size≤100:=by decide +kernel);have gj:=hid (fun w=>Ar w);generalize mO=r3 at *;generalize nf=r2 at *;generalize oN=r1 at *;(go_enter Tryz.func105,Tryz.ntmps105);(go_wp2_with fail);go_quiet (fail);have hB:=aN (Below.refl w.heap.size w) nq;generalize w.drewN nq=w1 at *;generalize s.extract i s.size=t at *;clear x0 x1 x2 x3;(go_wp2_with fail);refine (gj.out _).mono ?_;rintro e w2 ⟨rfl,gg⟩;have I:=am hB gg;clear gg gj;have HQ:=HH.out.below I;obtain ⟨gp,gm,gn,ga⟩:=HQ.out;have gh:=ga.blk;obtain ⟨x0,x1,x2,x3,f0,f1,f2,f3⟩:=ac gh;have gu:∀ W:World,(Instr.index 125 (.agg #[.string r3,.string r2,.string r1]) (.int .i64 0)).run Tryz.prog W=.ok (.string r3) W:=fun W=>su r3 r2 r1 0 (by omega) W;have gt:∀ W:World,(Instr.index 125 (.agg #[.string r3,.string r2,.string r1]) (.int .i64 1)).run Tryz.prog W=.ok (.string r2) W:=fun W=>su r3 r2 r1 1 (by omega) W;have gs:∀ W:World,(Instr.index 125 (.agg #[.string r3,.string r2,.string r1]) (.int .i64 2)).run Tryz.prog W=.ok (.string r1) W:=fun W=>su r3 r2 r1 2 (by omega) W;(have k1:1≤t.size:=by omega);have q:=hid gb;clear hb gh HH h gb gi ga;(go_wp2_with fail);refine wp_loop_rounds 4 ?_;by_cases k3:3≤t.size
 ·(have gl:(3:Int)≤(t.size:Int):=by omega);rw [rounds_succ];cases c3 with
  | true=>(go_wp2_with fail);refine (H3.out _ I).mono ?_;rintro e w3 ⟨rfl,rfl⟩;have U:=hid (show cQ s i=3 by rw [K.out];simp [k3]);have q1:IntKind.i64.wrap ((i:Int)+3)=(i:Int)+3:=IntWalk.i64_in _ (by omega);(have q2:IntKind.i64.wrap ((i:Int)+3-3)=(i:Int):=by rw [show (i:Int)+3-3=(i:Int) by omega];exact IntWalk.i64_in _ (by omega));(have M:i+3≤s.size:=by have:=q.out;omega);have D:=HQ.set (i+3) (by omega) M;rw [show ((i+3:Nat):Int)=(i:Int)+3 by omega] at D;have J:=hid D;clear D;(go_wp2_with fail);have D:=J.out;refine (fp X s (i+3) l 6 i (by omega) hl _ D).mono ?_;rintro e w4 ⟨rfl,N,O⟩;(go_wp2_with fail);refine bodyPost_ret (results_none rfl _ _ _) rfl ?_;unfold d9 f8;rw [if_neg (by rw [U.out];omega),U.out];exact ⟨rfl,N,((I.mono (Nat.le_of_lt j)).setCell (Nat.le_refl _) _).trans O⟩
  | false=>
   (go_wp2_with fail);refine (H3.out _ I).mono ?_;rintro e w3 ⟨rfl,rfl⟩;(go_wp2_with fail);(have k2:2≤t.size:=by omega);(have gd:(2:Int)≤(t.size:Int):=by omega);rw [rounds_succ];cases c2 with
   | true=>(go_wp2_with fail);refine (H2.out _ I).mono ?_;rintro e w3 ⟨rfl,rfl⟩;have U:=hid (show cQ s i=2 by rw [K.out];simp [k2]);have q1:IntKind.i64.wrap ((i:Int)+2)=(i:Int)+2:=IntWalk.i64_in _ (by omega);(have q2:IntKind.i64.wrap ((i:Int)+2-2)=(i:Int):=by rw [show (i:Int)+2-2=(i:Int) by omega];exact IntWalk.i64_in _ (by omega));(have M:i+2≤s.size:=by have:=q.out;omega);have D:=HQ.set (i+2) (by omega) M;rw [show ((i+2:Nat):Int)=(i:Int)+2 by omega] at D;have J:=hid D;clear D;(go_wp2_with fail);have D:=J.out;refine (fp X s (i+2) l 6 i (by omega) hl _ D).mono ?_;rintro e w4 ⟨rfl,N,O⟩;(go_wp2_with fail);refine bodyPost_ret (results_none rfl _ _ _) rfl ?_;unfold d9 f8;rw [if_neg (by rw [U.out];omega),U.out];exact ⟨rfl,N,((I.mono (Nat.le_of_lt j)).setCell (Nat.le_refl _) _).trans O⟩
   | false=>
    (go_wp2_with fail);refine (H2.out _ I).mono ?_;rintro e w3 ⟨rfl,rfl⟩;(go_wp2_with fail);(have ge:(1:Int)≤(t.size:Int):=by omega);rw [rounds_succ];cases c1 with
    | true=>(go_wp2_with fail);refine (H1.out _ I).mono ?_;rintro e w3 ⟨rfl,rfl⟩;have U:=hid (show cQ s i=1 by rw [K.out];simp [k1]);have q1:IntKind.i64.wrap ((i:Int)+1)=(i:Int)+1:=IntWalk.i64_in _ (by omega);(have q2:IntKind.i64.wrap ((i:Int)+1-1)=(i:Int):=by rw [show (i:Int)+1-1=(i:Int) by omega];exact IntWalk.i64_in _ (by omega));(have M:i+1≤s.size:=by have:=q.out;omega);have D:=HQ.set (i+1) (by omega) M;rw [show ((i+1:Nat):Int)=(i:Int)+1 by omega] at D;have J:=hid D;clear D;(go_wp2_with fail);have D:=J.out;refine (fp X s (i+1) l 6 i (by omega) hl _ D).mono ?_;rintro e w4 ⟨rfl,N,O⟩;(go_wp2_with fail);refine bodyPost_ret (results_none rfl _ _ _) rfl ?_;unfold d9 f8;rw [if_neg (by rw [U.out];omega),U.out];exact ⟨rfl,N,((I.mono (Nat.le_of_lt j)).setCell (Nat.le_refl _) _).trans O⟩
    | false=>(go_wp2_with fail);refine (H1.out _ I).mono ?_;rintro e w3 ⟨rfl,rfl⟩;(go_wp2_with fail);have U:=hid (show cQ s i=0 by rw [K.out];simp []);rw [rounds_succ];(go_wp2_with fail);refine (dV X i _).mono ?_;rintro e w4 ⟨rfl,rfl⟩;unfold dv;refine ⟨rfl,?_⟩;unfold d9 f8;rw [if_pos U.out];exact ⟨rfl,I.mono (Nat.le_of_lt j)⟩
 ·(have gq:decide (3≤t.size)=false:=by rw [decide_eq_false_iff_not];exact k3);(have gl:decide ((3:Int)≤(t.size:Int))=false:=by rw [decide_eq_false_iff_not];omega);have u:=hid k3;clear k3;rw [rounds_succ];(go_wp2_with fail);by_cases k2:2≤t.size
  ·(have gd:(2:Int)≤(t.size:Int):=by omega);rw [rounds_succ];cases c2 with
   | true=>(go_wp2_with fail);refine (H2.out _ I).mono ?_;rintro e w3 ⟨rfl,rfl⟩;have U:=hid (show cQ s i=2 by rw [K.out];simp [u.out,k2]);have q1:IntKind.i64.wrap ((i:Int)+2)=(i:Int)+2:=IntWalk.i64_in _ (by omega);(have q2:IntKind.i64.wrap ((i:Int)+2-2)=(i:Int):=by rw [show (i:Int)+2-2=(i:Int) by omega];exact IntWalk.i64_in _ (by omega));(have M:i+2≤s.size:=by have:=q.out;omega);have D:=HQ.set (i+2) (by omega) M;rw [show ((i+2:Nat):Int)=(i:Int)+2 by omega] at D;have J:=hid D;clear D;(go_wp2_with fail);have D:=J.out;refine (fp X s (i+2) l 6 i (by omega) hl _ D).mono ?_;rintro e w4 ⟨rfl,N,O⟩;(go_wp2_with fail);refine bodyPost_ret (results_none rfl _ _ _) rfl ?_;unfold d9 f8;rw [if_neg (by rw [U.out];omega),U.out];exact ⟨rfl,N,((I.mono (Nat.le_of_lt j)).setCell (Nat.le_refl _) _).trans O⟩
   | false=>
    (go_wp2_with fail);refine (H2.out _ I).mono ?_;rintro e w3 ⟨rfl,rfl⟩;(go_wp2_with fail);(have ge:(1:Int)≤(t.size:Int):=by omega);rw [rounds_succ];cases c1 with
    | true=>(go_wp2_with fail);refine (H1.out _ I).mono ?_;rintro e w3 ⟨rfl,rfl⟩;have U:=hid (show cQ s i=1 by rw [K.out];simp [u.out,k1]);have q1:IntKind.i64.wrap ((i:Int)+1)=(i:Int)+1:=IntWalk.i64_in _ (by omega);(have q2:IntKind.i64.wrap ((i:Int)+1-1)=(i:Int):=by rw [show (i:Int)+1-1=(i:Int) by omega];exact IntWalk.i64_in _ (by omega));(have M:i+1≤s.size:=by have:=q.out;omega);have D:=HQ.set (i+1) (by omega) M;rw [show ((i+1:Nat):Int)=(i:Int)+1 by omega] at D;have J:=hid D;clear D;(go_wp2_with fail);have D:=J.out;refine (fp X s (i+1) l 6 i (by omega) hl _ D).mono ?_;rintro e w4 ⟨rfl,N,O⟩;(go_wp2_with fail);refine bodyPost_ret (results_none rfl _ _ _) rfl ?_;unfold d9 f8;rw [if_neg (by rw [U.out];omega),U.out];exact ⟨rfl,N,((I.mono (Nat.le_of_lt j)).setCell (Nat.le_refl _) _).trans O⟩
    | false=>(go_wp2_with fail);refine (H1.out _ I).mono ?_;rintro e w3 ⟨rfl,rfl⟩;(go_wp2_with fail);have U:=hid (show cQ s i=0 by rw [K.out];simp [u.out]);rw [rounds_succ];(go_wp2_with fail);refine (dV X i _).mono ?_;rintro e w4 ⟨rfl,rfl⟩;unfold dv;refine ⟨rfl,?_⟩;unfold d9 f8;rw [if_pos U.out];exact ⟨rfl,I.mono (Nat.le_of_lt j)⟩
  ·(have gr:decide (2≤t.size)=false:=by rw [decide_eq_false_iff_not];exact k2);(have gd:decide ((2:Int)≤(t.size:Int))=false:=by rw [decide_eq_false_iff_not];omega);have gk:=hid k2;clear k2;rw [rounds_succ];(go_wp2_with fail);(have ge:(1:Int)≤(t.size:Int):=by omega);rw [rounds_succ];cases c1 with
   | true=>(go_wp2_with fail);refine (H1.out _ I).mono ?_;rintro e w3 ⟨rfl,rfl⟩;have U:=hid (show cQ s i=1 by rw [K.out];simp [u.out,gk.out,k1]);have q1:IntKind.i64.wrap ((i:Int)+1)=(i:Int)+1:=IntWalk.i64_in _ (by omega);(have q2:IntKind.i64.wrap ((i:Int)+1-1)=(i:Int):=by rw [show (i:Int)+1-1=(i:Int) by omega];exact IntWalk.i64_in _ (by omega));(have M:i+1≤s.size:=by have:=q.out;omega);have D:=HQ.set (i+1) (by omega) M;rw [show ((i+1:Nat):Int)=(i:Int)+1 by omega] at D;have J:=hid D;clear D;(go_wp2_with fail);have D:=J.out;refine (fp X s (i+1) l 6 i (by omega) hl _ D).mono ?_;rintro e w4 ⟨rfl,N,O⟩;(go_wp2_with fail);refine bodyPost_ret (results_none rfl _ _ _) rfl ?_;unfold d9 f8;rw [if_neg (by rw [U.out];omega),U.out];exact ⟨rfl,N,((I.mono (Nat.le_of_lt j)).setCell (Nat.le_refl _) _).trans O⟩
   | false=>(go_wp2_with fail);refine (H1.out _ I).mono ?_;rintro e w3 ⟨rfl,rfl⟩;(go_wp2_with fail);have U:=hid (show cQ s i=0 by rw [K.out];simp [u.out,gk.out]);rw [rounds_succ];(go_wp2_with fail);refine (dV X i _).mono ?_;rintro e w4 ⟨rfl,rfl⟩;unfold dv;refine ⟨rfl,?_⟩;unfold d9 f8;rw [if_pos U.out];exact ⟨rfl,I.mono (Nat.le_of_lt j)⟩
end
end Go.Proofs.YtiebcdeafofgdaaGreatDoor

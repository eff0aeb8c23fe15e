/-
  Parts of the proof: Pst Pshift Pwr. By an AI agent.
-/
import Derived.Test.YtiebcdeafofgdaaGreatDoorJ45
import Derived.Test.YtiebcdeafofgdaaGreatDoorJ02
import Derived.Test.YtiebcdeafofgdaaGreatDoorJ40
import Derived.Test.YtiebcdeafofgdaaGreatDoorJ43
namespace Go.Proofs.YtiebcdeafofgdaaGreatDoor
section
theorem dV (n:Nd):(iZ n).kind=n.kind:=by cases n;rw [dt];rfl
theorem fp (n:Nd):(iZ n).text=n.text:=by cases n;rw [dt];rfl
theorem dW (n:Nd):(iZ n).kids=n.kids.map iZ:=by cases n;rw [dt,←fo];rfl
theorem LG:iZ bJ=bJ:=by unfold bJ;rw [dt,nC]
def bB (p:Nd→Bool):Prop:=∀ n,p (iZ n)=p n
theorem yy (l:List Nd) (i:Nat):(l.map iZ).getD i bJ=iZ (l.getD i bJ):=by
 rw [List.getD_eq_getElem?_getD,List.getD_eq_getElem?_getD,List.getElem?_map];cases l[i]? with
 | none=>exact LG.symm
 | some x=>rfl
theorem nx {p:Nd→Bool} (h:bB p) (l:List Nd):(l.map iZ).all p=l.all p:=by rw [List.all_map];congr 1;exact funext h
theorem wA:∀ (ps:List (Nd→Bool)) (l:List Nd),(∀ p∈ps,bB p)→d7 ps (l.map iZ)=d7 ps l
 | [],[],_=>rfl
 | [],_::_,_=>rfl
 | _::_,[],_=>rfl
 | p::ps,n::l,h=>by rw [List.map_cons,d7,d7,h p (by simp) n,wA ps l fun q hq=>h q (by simp [hq])]
theorem mu {k:Int} {ps:List (Nd→Bool)} (h:∀ p∈ps,bB p):bB (ew k ps):=fun n=>by unfold ew;rw [dV,fp,dW,wA ps _ h]
theorem Gl (so:ByteArray→Bool) (n:Nd):aA so (iZ n)=iZ (aA so n):=by
 unfold aA;rw [fp];split
 ·rw [dV,dt,dW,fo];obtain ⟨k,t,l,a⟩:=n;rw [dt];rfl
 ·rw [dt,nC]
theorem pk {k:Int} {ps:List (Nd→Bool)} (so:ByteArray→Bool) (h:∀ p∈ps,bB p):bB (fun n=>ew k ps (aA so n)):=fun n=>by show ew k ps (aA so (iZ n))=ew k ps (aA so n);rw [Gl,mu h]
theorem lO {k:Int} {ps:List (Nd→Bool)} (so:ByteArray→Bool) (h:∀ p∈ps,bB p) (n:Nd):ew k ps (aA so (iZ n))=ew k ps (aA so n):=pk so h n
theorem Bq {p:Nd→Bool} (h:bB p):bB (lY p):=fun n=>by unfold lY;rw [dV,fp,dW,nx h]
theorem fb {p q:Nd→Bool} (h:bB p) (D:bB q):bB (fm p q):=fun n=>by unfold fm;rw [h,D]
theorem ep:bB aS:=fun n=>by unfold aS;rw [dV,fp,dW,List.length_map]
theorem lP {p:Nd→Bool} (h:bB p):∀ q∈[p],bB q:=fun q hq=>by (obtain rfl:q=p:=by simpa using hq);exact h
theorem ol {p q:Nd→Bool} (h:bB p) (D:bB q):∀ r∈[p,q],bB r:=fun r hr=>by
 (have:r=p∨r=q:=by simpa using hr);rcases this with rfl | rfl
 ·exact h
 ·exact D
theorem Br {p q u:Nd→Bool} (h:bB p) (I:bB q) (D:bB u):∀ r∈[p,q,u],bB r:=fun r hr=>by
 (have:r=p∨r=q∨r=u:=by simpa using hr);rcases this with rfl | rfl | rfl
 ·exact h
 ·exact I
 ·exact D
theorem IL {p q u v:Nd→Bool} (h:bB p) (J:bB q) (I:bB u) (D:bB v):∀ r∈[p,q,u,v],bB r:=fun r hr=>by
 (have:r=p∨r=q∨r=u∨r=v:=by simpa using hr);rcases this with rfl | rfl | rfl | rfl
 ·exact h
 ·exact J
 ·exact I
 ·exact D
theorem sy:∀ q∈([]:List (Nd→Bool)),bB q:=fun q hq=>by simp at hq
structure Mn (F:eF):Prop where
 typ:bB F.typ
 expr:bB F.expr
 block:bB F.block
 stmt:bB F.stmt
 ifS:bB F.ifS
section
variable {F:eF} (hF:Mn F)
include hF
theorem yz (so:ByteArray→Bool):bB (uj F so):=mu (ol (Bq (pk so (lP hF.typ))) (fb ep hF.typ))
theorem IM:bB (sh F):=fun n=>by unfold sh;rw [dV,fp,dW,nx hF.typ,mu (lP hF.typ),yz hF]
theorem wB:bB (ip F):=fun n=>by unfold ip;rw [dV,fp,dW,List.length_map,nx (show bB (sN F) from pk nH (lP hF.typ))]
theorem CG:bB (iy F):=fun n=>by unfold iy;rw [dV,fp,dW,nx (show bB (o8 F) from pk bj (lP hF.typ))]
theorem CH:bB (la F):=fun n=>by unfold la;rw [dV,hF.typ]
theorem pl:bB (fO F):=Bq (show bB (pz F) from pk bj (lP (fb (CH hF) (wB hF))))
theorem Dg:bB (si F):=fun n=>by unfold si;rw [lO bj (ol (fb ep hF.typ) (fb ep hF.expr)),dW,yy,yy,ep,ep]
theorem Gm:bB (lZ F):=fun n=>by unfold lZ;rw [dV,lO bj (Br (pl hF) (show bB (iT F) from yz hF bj) hF.block),lO bj (ol (pl hF) (fb (fb hF.typ (CG hF)) (wB hF))),lO bj (ol (pl hF) hF.typ),Dg hF]
theorem Gn:bB (nI F):=fun n=>by unfold nI;rw [dV,hF.expr,hF.typ]
theorem Gp:bB (ex F):=fun n=>by unfold ex;rw [dV,fp,dW,List.length_map,nx hF.expr,←List.map_drop,nx (Gn hF),nx hF.expr,yy,dV,hF.expr,hF.typ,lO mQ sy,lO iJ sy,lO bj sy,lO mR (lP hF.expr),lO lc (ol hF.expr hF.expr),lO bj (lP hF.expr),mu (ol (show bB (iT F) from yz hF bj) hF.block)]
theorem yA:bB (mS F):=pk oQ (lP hF.expr)
theorem yB:bB (mT F):=mu (ol hF.expr hF.expr)
theorem Gq:bB (nJ F):=fun n=>by unfold nJ;rw [dV,hF.expr]
theorem Bs:bB (l5 F):=mu (lP (Gq hF))
theorem wC:bB (fP F):=pk eE (lP hF.expr)
theorem wD:bB (lE F):=fun n=>by unfold lE;rw [dV,fp,dW,nx hF.stmt]
theorem Gr:bB (IZ F):=mu (Br hF.expr hF.block (fb (fb ep hF.block) hF.ifS))
theorem Gs:bB (fz F):=fun n=>by unfold fz;rw [dV,Dg hF,wC hF,yB hF,yA hF,Bs hF,Gr hF,mu (IL (fb (fb ep (wC hF)) (fb (yB hF) (yA hF))) (fb ep hF.expr) (fb (fb ep (yB hF)) (fb (yA hF) (Bs hF))) hF.block),lO ld (ol hF.expr hF.block),mu (lP (fb ep hF.expr)),mu sy,wD hF]
theorem Gt:bB (pB F):=fun n=>by unfold pB;rw [dV,fp,dW,nx (Gm hF)]
end
theorem sB:∀ g,Mn (lU g)
 | 0=>⟨fun _=>rfl,fun _=>rfl,fun _=>rfl,fun _=>rfl,fun _=>rfl⟩
 | g+1=>by have h:=sB g;exact ⟨IM h,Gp h,wD h,Gs h,Gr h⟩
theorem om:∀ (g:Nat) (n:Nd),bg g (iZ n)=bg g n
 | 0,_=>rfl
 | g+1,n=>by rw [bg,bg,dW,List.flatMap_map];congr 2;exact funext (om g)
theorem Gu (n:Nd):dQ (iZ n)=dQ n:=by unfold dQ;rw [om]
theorem Bt (n:Nd):cV (iZ n)=cV n:=by unfold cV sO;rw [Gu,om,Gt (sB 100)]
theorem cJ.right {n m:Nd} (h:cJ n m):cV n=cV m:=by rw [←Bt,show iZ n=iZ m from h,Bt]
end
section
open Go.Lib
structure IK (t:List UInt8):Prop where
 hd:∃ q,t=10::q
 no:(96:UInt8) ∉ t
 cl:index t [42,47]<0
theorem yw {a b:UInt8} {r t:List UInt8} (hb:b≠10) (I:r≠[]) (D:∃ q,t=10::q):[a,b].isPrefixOf (r++t)=[a,b].isPrefixOf r:=by
 obtain ⟨q,rfl⟩:=D
 match r,I with
 | [x],_=>simp [List.isPrefixOf,hb]
 | x::y::r,_=>simp [List.isPrefixOf]
theorem wv (p:List UInt8) (a b:UInt8) (D:p=[a,b]) (hb:b≠10) {t:List UInt8} (I:∃ q,t=10::q) (M:index t p<0):∀ x:List UInt8,index (x++t) p=index x p
 | []=>by have N:=index_ge t p;subst D;rw [List.nil_append];show index t [a,b] = -1;omega
 | c::x=>by have ih:=wv p a b D hb I M x;(have J:p.isPrefixOf (c::x++t)=p.isPrefixOf (c::x):=by rw [D];exact yw hb (by simp) I);rw [List.cons_append] at J ⊢;rw [index,index,J,ih]
theorem oW (c:UInt8):∀ (x:List UInt8) (q:List UInt8),indexByte (x++c::q) c=if indexByte x c<0 then (x.length:Int) else indexByte x c
 | [],q=>by simp [indexByte]
 | b::x,q=>by
  have ih:=oW c x q;have I:=indexByte_ge x c;rw [List.cons_append,indexByte,indexByte,ih];by_cases hb:(b==c)=true
  ·rw [if_pos hb,if_pos hb,if_neg (by omega)]
  ·rw [if_neg hb,if_neg hb];by_cases h:indexByte x c<0
   ·(have e:indexByte x c = -1:=by omega);rw [if_pos h,e];(have D:((x.length:Int) == -1)=false:=by rw [beq_eq_false_iff_ne];omega);rw [D];simp
   ·rw [if_neg h];(have D:(indexByte x c == -1)=false:=by rw [beq_eq_false_iff_ne];omega);rw [D];simp only [Bool.false_eq_true,if_false];rw [if_neg (by omega)]
theorem sd (x:List UInt8) {t:List UInt8} (D:∃ q,t=10::q):dT (x++t)=dT x:=by
 obtain ⟨q,rfl⟩:=D;unfold dT;rw [oW];have I:=indexByte_ge x 10;by_cases h:indexByte x 10<0
 ·rw [if_pos h,if_pos h,if_neg (by omega)];simp
 ·simp only [if_neg h]
theorem Bl:∀ (x:List UInt8) {t:List UInt8},(∃ q,t=10::q)→a8 (x++t)=a8 x:=by
 intro x t ht;obtain ⟨q,rfl⟩:=ht;unfold a8;congr 1;induction x with
 | nil=>rw [List.nil_append,List.takeWhile_cons,if_neg (by decide)];rfl
 | cons a x ih=>rw [List.cons_append,List.takeWhile_cons,List.takeWhile_cons,ih]
theorem oJ (en:Nat) (t:List UInt8):∀ (x:List UInt8) (b:Bool) (k m:Nat),aR en x b k=some m→aR en (x++t) b k=some m
 | [],b,k,m,h=>by cases b <;> simp [aR] at h
 | c::x,true,k,m,h=>by
  rw [List.cons_append,aR];rw [aR] at h;split at h
  ·cases h
  ·rename_i hc;rw [if_neg hc];exact oJ en t x _ _ _ h
 | c::x,false,k,m,h=>by
  rw [List.cons_append,aR];rw [aR] at h;split at h
  ·rename_i I;rw [if_pos I];exact oJ en t x _ _ _ h
  ·rename_i I;rw [if_neg I];split at h
   ·rename_i D;rw [if_pos D];exact h
   ·rename_i D;rw [if_neg D];split at h
    ·cases h
    ·rename_i J;rw [if_neg J];exact oJ en t x _ _ _ h
theorem ww:∀ (t:List UInt8) (k:Nat),(96:UInt8) ∉ t→aR 96 t false k=none
 | [],_,_=>rfl
 | c::t,k,h=>by simp only [List.mem_cons,not_or] at h;have hc:c.toNat≠96:=fun e=>h.1 (UInt8.toNat_inj.1 (by rw [e];rfl));rw [aR,if_neg (by omega),if_neg hc,if_neg (by omega)];exact ww t _ h.2
theorem oK (en:Nat) (J:en=34∨en=96) {t:List UInt8} (I:IK t):∀ (x:List UInt8) (b:Bool) (k:Nat),(b=true→en=34)→aR en x b k=none→aR en (x++t) b k=none
 | [],b,k,hb,_=>by
  obtain ⟨q,e⟩:=I.hd;rw [List.nil_append];rcases J with rfl | rfl
  ·rw [e];cases b with
   | true=>rw [aR,if_pos (by decide)]
   | false=>rw [aR,if_neg (by decide),if_neg (by decide),if_pos (by decide)]
  ·cases b with
   | true=>exact absurd (hb rfl) (by decide)
   | false=>exact ww t k I.no
 | c::x,true,k,hb,h=>by
  rw [List.cons_append,aR];rw [aR] at h;split at h
  ·rename_i D;rw [if_pos D]
  ·rename_i D;rw [if_neg D];exact oK en J I x _ _ (fun e=>by cases e) h
 | c::x,false,k,hb,h=>by
  rw [List.cons_append,aR];rw [aR] at h;split at h
  ·rename_i D;rw [if_pos D];exact oK en J I x _ _ (fun _=>D.2) h
  ·rename_i D;rw [if_neg D];split at h
   ·cases h
   ·rename_i N;rw [if_neg N];split at h
    ·rename_i M;rw [if_pos M]
    ·rename_i M;rw [if_neg M];exact oK en J I x _ _ (fun e=>by cases e) h
theorem Gk {row x:List UInt8} (h:contains (32::row++[32]) (32::x++[32])=true):∀ b∈x,b∈32::row++[32]:=by intro b hb;obtain ⟨k,_,I⟩:=nj h;have D:=iE I;(have:b∈32::x++[32]:=by simp [hb]);rw [←D] at this;exact List.mem_of_mem_drop (List.mem_of_mem_take this)
theorem Bm:(10:UInt8) ∉ 32::bytes nM++[32]∧(10:UInt8) ∉ 32::bytes nN++[32]:=by decide +kernel
def ri (r:List UInt8):Nat:=
 if 3≤r.length∧contains (32::bytes nM++[32]) (32::r.take 3++[32])=true then 3
 else if 2≤r.length∧contains (32::bytes nN++[32]) (32::r.take 2++[32])=true then 2
 else if 1≤r.length∧contains (32::bytes sm++[32]) (32::r.take 1++[32])=true then 1
 else 0
theorem CC (s:ByteArray) (i:Nat):bytes (s.extract i s.size)=(bytes s).drop i:=by rw [dx];exact List.take_of_length_le (by rw [List.length_drop,bz];omega)
theorem lp (s:ByteArray) (i:Nat):bV s i=ri ((bytes s).drop i):=by unfold bV ri;rw [lM,lM,lM,CC,List.length_drop,bz]
theorem CD (n:Nat) (r q:List UInt8) (h:r.length<n):(10:UInt8)∈(r++10::q).take n:=by rw [List.mem_iff_getElem?];refine ⟨r.length,?_⟩;rw [List.getElem?_take_of_lt h,List.getElem?_append_right (Nat.le_refl _),Nat.sub_self];rfl
theorem Bn {row:List UInt8} (D:(10:UInt8) ∉ 32::row++[32]) (n:Nat) (r q:List UInt8):(n≤(r++10::q).length∧contains (32::row++[32]) (32::(r++10::q).take n++[32])=true)↔(n≤r.length∧contains (32::row++[32]) (32::r.take n++[32])=true):=by
 rcases Nat.lt_or_ge r.length n with I | I
 ·refine ⟨fun h=>?_,fun h=>absurd h.1 (by omega)⟩;exact absurd (Gk h.2 10 (CD n r q I)) D
 ·rw [List.take_append_of_le_length I];constructor
  ·exact fun h=>⟨I,h.2⟩
  ·exact fun h=>⟨by rw [List.length_append];omega,h.2⟩
theorem Em {r t:List UInt8} (J:r≠[]) (I:∃ q,t=10::q):ri (r++t)=ri r:=by
 obtain ⟨q,rfl⟩:=I;have D:1≤r.length:=by
  cases r with
  | nil=>exact absurd rfl J
  | cons a r=>simp
 have M:(r++10::q).take 1=r.take 1:=List.take_append_of_le_length D;(have e:(1≤(r++10::q).length)=(1≤r.length):=by rw [eq_iff_iff,List.length_append];constructor <;> intro <;> omega);unfold ri;simp only [Bn Bm.1,Bn Bm.2,M,e]
structure nr (s s':ByteArray) (k:Nat):Prop where
 pos:0<k
 rest:∃ t,IK t∧(bytes s').drop k=bytes s++t
section
variable {s s':ByteArray} {k:Nat} (hW:nr s s' k)
include hW
theorem nr.len:s.size+k<s'.size:=by obtain ⟨t,D,e⟩:=hW.rest;obtain ⟨q,rfl⟩:=D.hd;have:=congrArg List.length e;rw [List.length_drop,bz,List.length_append,bz,List.length_cons] at this;omega
theorem nr.drop {i:Nat} (I:i≤s.size):∃ t,IK t∧(bytes s').drop (i+k)=(bytes s).drop i++t:=by obtain ⟨t,D,e⟩:=hW.rest;refine ⟨t,D,?_⟩;rw [Nat.add_comm,←List.drop_drop,e,List.drop_append_of_le_length (by rw [bz];exact I)]
theorem nr.at_ {i:Nat} (I:i<s.size):aa s' (i+k)=aa s i:=by obtain ⟨t,N,e⟩:=hW.drop (Nat.le_of_lt I);unfold aa;(have M:(bytes s').getD (i+k) 0=((bytes s').drop (i+k)).getD 0 0:=by rw [List.getD_eq_getElem?_getD,List.getD_eq_getElem?_getD,List.getElem?_drop,Nat.add_zero]);(have J:(bytes s).getD i 0=((bytes s).drop i).getD 0 0:=by rw [List.getD_eq_getElem?_getD,List.getD_eq_getElem?_getD,List.getElem?_drop,Nat.add_zero]);show ((bytes s').getD (i+k) 0).toNat=((bytes s).getD i 0).toNat;rw [M,J,e];(have D:0<((bytes s).drop i).length:=by rw [List.length_drop,bz];omega);rw [List.getD_eq_getElem?_getD,List.getD_eq_getElem?_getD,List.getElem?_append_left D]
theorem nr.cut {i j:Nat} (I:j≤s.size):s'.extract (i+k) (j+k)=s.extract i j:=by
 apply rG;rw [dx,dx];rcases Nat.lt_or_ge j i with h | h
 ·rw [show j+k-(i+k)=0 by omega,show j-i=0 by omega];rfl
 ·obtain ⟨t,D,e⟩:=hW.drop (i:=i) (by omega);rw [e,show j+k-(i+k)=j-i by omega];rw [List.take_append_of_le_length (by rw [List.length_drop,bz];omega)]
omit hW in
theorem nu {base:List bE} (hb:bL base=false) (d:Int) (l:List bE):bL (base++l.map (ii d))=bL l:=by
 rcases List.eq_nil_or_concat l with rfl | ⟨l,t,rfl⟩
 ·simp only [List.map_nil,List.append_nil];exact hb
 ·unfold bL;simp only [List.concat_eq_append,List.map_append,List.map_cons,List.map_nil,←List.append_assoc,List.getLast?_concat];rfl
omit hW in
theorem oL {base:List bE} (hb:bL base=false) (d:Int) (l:List bE) (p p':Int) (D:p'=p+d):cC (base++l.map (ii d)) p'=base++(cC l p).map (ii d):=by
 subst D;unfold cC;rw [nu hb];split
 ·rw [List.map_append,List.append_assoc];rfl
 ·rfl
def I9 (base:List bE) (k:Nat):GQ→GQ→Prop
 | .go j l,.go j' l'=>j'=j+k∧l'=base++l.map (ii (k:Int))
 | .bad p,.bad p'=>p'=p+k
 | _,_=>False
variable {base:List bE} (hb:bL base=false)
include hb
omit hW hb in
theorem sx (l:List bE) (t:bE) (t':bE) (J:t'.kind=t.kind) (I:t'.text=t.text) (D:t'.pos=t.pos+(k:Int)):(base++l.map (ii (k:Int)))++[t']=base++(l++[t]).map (ii (k:Int)):=by rw [List.map_append,List.append_assoc];obtain ⟨a,b,c⟩:=t;obtain ⟨a',b',c'⟩:=t';simp only at J I D;subst J I D;rfl
theorem CE (i:Nat) (l:List bE) (y:i<s.size):(dj s i l=none∧dj s' (i+k) (base++l.map (ii (k:Int)))=none)∨∃ r r',dj s i l=some r∧dj s' (i+k) (base++l.map (ii (k:Int)))=some r'∧I9 base k r r':=by
 obtain ⟨t,I,e⟩:=hW.drop (Nat.le_of_lt y);(have q:0<((bytes s).drop i).length:=by rw [List.length_drop,bz];omega);(have U:(bytes s).drop i≠[]:=fun h=>by rw [h] at q;simp at q);(have e1:hasPrefix (s'.data.toList.drop (i+k)) [47,47]=hasPrefix (s.data.toList.drop i) [47,47]:=by show [47,47].isPrefixOf ((bytes s').drop (i+k))=_;rw [e];exact yw (by decide) U I.hd);(have e2:hasPrefix (s'.data.toList.drop (i+k)) [47,42]=hasPrefix (s.data.toList.drop i) [47,42]:=by show [47,42].isPrefixOf ((bytes s').drop (i+k))=_;rw [e];exact yw (by decide) U I.hd);(have e3:dT (s'.data.toList.drop (i+k))=dT (s.data.toList.drop i):=by show dT ((bytes s').drop (i+k))=_;rw [e];exact sd _ I.hd);unfold dj;rw [e1,e2,e3];by_cases N:hasPrefix (s.data.toList.drop i) [47,47]=true
 ·rw [if_pos N,if_pos N];exact .inr ⟨_,_,rfl,rfl,by omega,rfl⟩
 ·rw [if_neg N,if_neg N];by_cases J:hasPrefix (s.data.toList.drop i) [47,42]=true
  ·rw [if_pos J,if_pos J];(have O:2≤((bytes s).drop i).length:=by have h:[47,42].isPrefixOf ((bytes s).drop i)=true:=J;rw [List.isPrefixOf_iff_prefix] at h;exact h.length_le);(have e4:(s'.data.toList.drop (i+k)).drop 2=((bytes s).drop i).drop 2++t:=by show ((bytes s').drop (i+k)).drop 2=_;rw [e,List.drop_append_of_le_length O]);(have e5:index ((s'.data.toList.drop (i+k)).drop 2) [42,47]=index ((s.data.toList.drop i).drop 2) [42,47]:=by rw [e4];exact wv _ 42 47 rfl (by decide) I.hd I.cl _);rw [e5];by_cases M:index ((s.data.toList.drop i).drop 2) [42,47]<0
   ·rw [if_pos M,if_pos M];exact .inr ⟨_,_,rfl,rfl,rfl⟩
   ·rw [if_neg M,if_neg M];have D:=index_room ((s.data.toList.drop i).drop 2) [42,47] (by omega);(have e6:(s'.data.toList.drop (i+k)).take ((index ((s.data.toList.drop i).drop 2) [42,47]).toNat+4)=(s.data.toList.drop i).take ((index ((s.data.toList.drop i).drop 2) [42,47]).toNat+4):=by show ((bytes s').drop (i+k)).take _=_;rw [e];refine List.take_append_of_le_length ?_;(have h4:(((s.data.toList.drop i).drop 2).length:Int)=((bytes s).drop i).length-2:=by rw [List.length_drop];show (((((bytes s).drop i).length-2:Nat)):Int)=_;omega);have z:(([42,47]:List UInt8).length:Int)=2:=rfl;rw [h4,z] at D;omega);rw [e6];refine .inr ⟨_,_,rfl,rfl,by omega,?_⟩;split
    ·exact oL hb _ _ _ _ (by omega)
    ·rfl
  ·rw [if_neg J,if_neg J];exact .inl ⟨rfl,rfl⟩
theorem CF (i:Nat) (l:List bE) (M:i<s.size) (hm:i=0→hasPrefix (bytes s) [239,187,191]=false):I9 base k (bC s i l) (bC s' (i+k) (base++l.map (ii (k:Int)))):=by
 have hk:=hW.pos;obtain ⟨t,ht,e⟩:=hW.drop (Nat.le_of_lt M);(have hl:0<((bytes s).drop i).length:=by rw [List.length_drop,bz];omega);(have hr:(bytes s).drop i≠[]:=fun h=>by rw [h] at hl;simp at hl);(have e7:a8 (s'.data.toList.drop (i+k))=a8 (s.data.toList.drop i):=by show a8 ((bytes s').drop (i+k))=_;rw [e];exact Bl _ ht.hd);(have ga:i+a8 (s.data.toList.drop i)≤s.size:=by have:=sU (s.data.toList.drop i);rw [pD] at this;omega);(have e8:bV s' (i+k)=bV s i:=by rw [lp,lp,e];exact Em hr ht.hd);have gb:i+bV s i≤s.size:=by
  rw [lp];(have J:((bytes s).drop i).length=s.size-i:=by rw [List.length_drop,bz]);unfold ri;split
  ·omega
  ·split
   ·omega
   ·split <;> omega
 unfold bC;rw [if_neg (show ¬ (i+k=0∧_) from fun h=>by omega),if_neg (show ¬ (i=0∧hasPrefix s.data.toList [239,187,191]=true) from fun h=>by rw [show hasPrefix s.data.toList [239,187,191]=false from hm h.1] at h;exact absurd h.2 (by decide))];rw [hW.at_ M];by_cases J:aa s i=10
 ·rw [if_pos J,if_pos J];exact ⟨by omega,oL hb _ _ _ _ (by omega)⟩
 rw [if_neg J,if_neg J];by_cases q:aa s i=32∨aa s i=9∨aa s i=13
 ·rw [if_pos q,if_pos q];exact ⟨by omega,rfl⟩
 rw [if_neg q,if_neg q];rcases CE hW hb i l M with ⟨z,y⟩ | ⟨r,r',z,y,n3⟩
 ·rw [z,y];simp only;rw [e7];(have hcut:s'.extract (i+k) (i+k+a8 (s.data.toList.drop i))=s.extract i (i+a8 (s.data.toList.drop i)):=by rw [show i+k+a8 (s.data.toList.drop i)=i+a8 (s.data.toList.drop i)+k by omega];exact hW.cut ga);rw [hcut];by_cases U:a7 (aa s i:Int)=true
  ·rw [if_pos U,if_pos U];exact ⟨by omega,sx _ _ _ rfl rfl (by show ((i+k:Nat):Int)=(i:Int)+(k:Int);omega)⟩
  rw [if_neg U,if_neg U];by_cases O:aK (aa s i:Int)=true
  ·rw [if_pos O,if_pos O];exact ⟨by omega,sx _ _ _ rfl rfl (by show ((i+k:Nat):Int)=(i:Int)+(k:Int);omega)⟩
  rw [if_neg O,if_neg O];by_cases I:aa s i=34∨aa s i=96
  ·rw [if_pos I,if_pos I];unfold nP;rw [hW.at_ M];(have e9:s'.data.toList.drop (i+k+1)=(bytes s).drop (i+1)++t:=by show (bytes s').drop (i+k+1)=_;rw [←List.drop_drop,e,List.drop_append_of_le_length hl,List.drop_drop]);rw [e9];cases hq:aR (aa s i) (s.data.toList.drop (i+1)) false 0 with
   | some m=>rw [show aR (aa s i) ((bytes s).drop (i+1)++t) false 0=some m from oJ _ t _ _ _ _ hq];have gd:=oz _ _ _ _ _ hq;rw [pD] at gd;simp only;(have D:s'.extract (i+k) (i+k+m+2)=s.extract i (i+m+2):=by rw [show i+k+m+2=i+m+2+k by omega];exact hW.cut (by omega));rw [D];exact ⟨by omega,sx _ _ _ rfl rfl (by show ((i+k:Nat):Int)=(i:Int)+(k:Int);omega)⟩
   | none=>rw [show aR (aa s i) ((bytes s).drop (i+1)++t) false 0=none from oK _ I ht _ _ _ (fun e=>by cases e) hq];exact rfl
  ·rw [if_neg I,if_neg I];unfold ik;rw [e8];by_cases N:bV s i=0
   ·rw [if_pos N,if_pos N];exact rfl
   ·rw [if_neg N,if_neg N];(have D:s'.extract (i+k) (i+k+bV s i)=s.extract i (i+bV s i):=by rw [show i+k+bV s i=i+bV s i+k by omega];exact hW.cut gb);rw [D];exact ⟨by omega,sx _ _ _ rfl rfl (by show ((i+k:Nat):Int)=(i:Int)+(k:Int);omega)⟩
 ·rw [z,y];exact n3
theorem nw (hs:s.size≤65536) (hm:hasPrefix (bytes s) [239,187,191]=false):∀ (g i:Nat) (l:List bE),i≤s.size→s.size-i<g→fU i l →
  (∀ p,aU s g i l=.bad p→∀ g',s'.size-(i+k)<g'→aU s' g' (i+k) (base++l.map (ii (k:Int)))=.bad (p+k)) ∧
  (∀ r,aU s g i l=.ok r→∃ l0,r=cC l0 (s.size:Int)∧∀ g',s'.size-(i+k)<g'→∃ g'',s'.size-(s.size+k)<g''∧aU s' g' (i+k) (base++l.map (ii (k:Int)))=aU s' g'' (s.size+k) (base++l0.map (ii (k:Int))))
 | 0,_,_,_,h,_=>absurd h (by omega)
 | g+1,i,l,hi,hg,hv=>by
  rcases Nat.lt_or_ge i s.size with z | hge
  ·have D:=CF hW hb i l z (fun _=>hm);have gd:=hW.len;(have U:aU s (g+1) i l=match bC s i l with | .go j l'=>aU s g j l' | .bad p=>.bad p:=by rw [aU,if_pos z];rfl);(have e1:∀ g',s'.size-(i+k)<g'→∃ M,g'=M+1∧aU s' g' (i+k) (base++l.map (ii (k:Int)))=match bC s' (i+k) (base++l.map (ii (k:Int))) with | .go j l'=>aU s' M j l' | .bad p=>.bad p:=by intro g' J;obtain ⟨M,rfl⟩:∃ M,g'=M+1:=⟨g'-1,by omega⟩;exact ⟨M,rfl,by rw [aU,if_pos (by omega)];rfl⟩);cases y:bC s i l with
   | bad p=>
    rw [y] at D U;cases I:bC s' (i+k) (base++l.map (ii (k:Int))) with
    | go j' l'=>rw [I] at D;exact D.elim
    | bad p'=>rw [I] at D e1;have D:p'=p+k:=D;subst D;refine ⟨fun q O g' J=>?_,fun r N=>(by rw [U] at N;cases N)⟩;rw [U] at O;injection O with O;subst O;obtain ⟨M,_,e2⟩:=e1 g' J;exact e2
   | go j l2=>
    rw [y] at D U;obtain ⟨h1,h2,h3⟩:=lG s i l hs z hv j l2 y;cases I:bC s' (i+k) (base++l.map (ii (k:Int))) with
    | bad p'=>rw [I] at D;exact D.elim
    | go j' l'=>
     rw [I] at D e1;obtain ⟨rfl,rfl⟩:j'=j+k∧l'=base++l2.map (ii (k:Int)):=D;have ih:=nw hs hm g j l2 h2 (by omega) h3;refine ⟨fun q O g' J=>?_,fun r N=>?_⟩
     ·rw [U] at O;obtain ⟨M,gb,e2⟩:=e1 g' J;rw [e2];exact ih.1 q O M (by omega)
     ·rw [U] at N;obtain ⟨l0,ga,h4⟩:=ih.2 r N;refine ⟨l0,ga,fun g' J=>?_⟩;obtain ⟨M,gb,e2⟩:=e1 g' J;obtain ⟨g'',h5,h6⟩:=h4 M (by omega);exact ⟨g'',h5,e2.trans h6⟩
  ·(have he:i=s.size:=by omega);subst he;(have U:aU s (g+1) s.size l=.ok (cC l (s.size:Int)):=by rw [aU,if_neg (Nat.lt_irrefl _)]);refine ⟨fun q O=>(by rw [U] at O;cases O),fun r N=>?_⟩;rw [U] at N;injection N with N;exact ⟨l,N.symm,fun g' J=>⟨g',J,rfl⟩⟩
end
theorem dy (s:ByteArray) (i:Nat):aa s i=((bytes s).getD i 0).toNat:=rfl
theorem Bo (s:ByteArray) (i:Nat) (h:(Utf8.decode s i).1=65279):aa s i=239:=by
 rw [eQ,un] at h;have M:=df s i;have J:=df s (i+1);have I:=df s (i+2);have D:=df s (i+3);split at h
 ·simp only at h;omega
 ·split at h
  ·split at h <;> (simp only at h;omega)
  ·split at h
   ·split at h <;> (simp only at h;omega)
   ·split at h
    ·split at h <;> (simp only at h;omega)
    ·simp only at h;omega
theorem Bp (s:ByteArray) (i:Nat) (D:i<s.size):1≤(Utf8.decode s i).2∧i+(Utf8.decode s i).2≤s.size:=by
 rcases Nat.lt_or_ge (aa s i) 128 with h | h
 ·rw [d8 s i h];exact ⟨Nat.le_refl _,D⟩
 ·obtain ⟨-,J,I,-⟩:=d5 s i D h;exact ⟨J,I⟩
theorem t6 {α:Type} {p q:Prop} [Decidable p] [Decidable q] {a b c d:α} (h:p↔q) (J:p→a=c) (hb:¬ p→b=d):(if p then a else b)=(if q then c else d):=by
 by_cases D:p
 ·rw [if_pos D,if_pos (h.1 D),J D]
 ·rw [if_neg D,if_neg (fun I=>D (h.2 I)),hb D]
section
variable {s s':ByteArray} {k:Nat} (hW:nr s s' k)
include hW
theorem nr.end_:aa s' (s.size+k)=10:=by obtain ⟨t,D,e⟩:=hW.drop (Nat.le_refl _);obtain ⟨q,rfl⟩:=D.hd;(have I:(bytes s').getD (s.size+k) 0=((bytes s').drop (s.size+k)).getD 0 0:=by rw [List.getD_eq_getElem?_getD,List.getD_eq_getElem?_getD,List.getElem?_drop,Nat.add_zero]);rw [dy,I,e,List.drop_of_length_le (by rw [bz];omega)];rfl
theorem yx (i:Nat) (hi:i<s.size):Utf8.decode s' (i+k)=Utf8.decode s i:=by
 have ga:=hW.len;have e0:=hW.at_ hi;have key:∀ j,j≤3→(i+j<s.size→aa s' (i+k+j)=aa s (i+j))∧(i+j=s.size→aa s' (i+k+j)=10):=by
  intro j _;refine ⟨fun h=>?_,fun h=>?_⟩
  ·rw [show i+k+j=i+j+k by omega];exact hW.at_ h
  ·rw [show i+k+j=s.size+k by omega];exact hW.end_
 obtain ⟨a1,U⟩:=key 1 (by omega);obtain ⟨a2,b2⟩:=key 2 (by omega);obtain ⟨a3,b3⟩:=key 3 (by omega);rw [eQ,eQ,e0];rcases Nat.lt_or_ge (i+3) s.size with h3 | h3
 ·(have e1:(i+k+1<s'.size)=(i+1<s.size):=by rw [eq_iff_iff];omega);(have e2:(i+k+2<s'.size)=(i+2<s.size):=by rw [eq_iff_iff];omega);(have e3:(i+k+3<s'.size)=(i+3<s.size):=by rw [eq_iff_iff];omega);rw [a1 (by omega),a2 (by omega),a3 h3];simp only [e1,e2,e3]
 ·have y0:∀ (D x2 x3:Nat) (c1 c2 c3:Prop) [Decidable c1] [Decidable c2] [Decidable c3] (O N d3:Prop) [Decidable O] [Decidable N] [Decidable d3] (J z2 z3:Nat),
    ((c1∧D / 64=2)↔(O∧J / 64=2))→((c1∧D / 64=2)→D=J)→((c1∧D / 64=2)→((c2∧x2 / 64=2)↔(N∧z2 / 64=2)))→((c1∧D / 64=2)→(c2∧x2 / 64=2)→x2=z2) →
    ¬ ((c1∧D / 64=2)∧(c2∧x2 / 64=2)∧(c3∧x3 / 64=2))→¬ ((O∧J / 64=2)∧(N∧z2 / 64=2)∧(d3∧z3 / 64=2)) →
    ∀ y,un y D x2 x3 c1 c2 c3=un y J z2 z3 O N d3:=by intro D x2 x3 c1 c2 c3 _ _ _ O N d3 _ _ _ J z2 z3 I M z q4 q5 q6 y;unfold un;refine t6 Iff.rfl (fun _=>rfl) fun _=>?_;refine t6 (and_congr_right fun _=>I) (fun h=>by rw [M h.2]) fun _=>?_;refine t6 (and_congr_right fun _=>⟨fun h=>⟨I.1 h.1,(z h.1).1 h.2⟩,fun h=>⟨I.2 h.1,(z (I.2 h.1)).2 h.2⟩⟩) (fun h=>by rw [M h.2.1,q4 h.2.1 h.2.2]) fun _=>?_;rw [if_neg (fun h=>q5 h.2),if_neg (fun h=>q6 h.2)]
  refine y0 _ _ _ _ _ _ _ _ _ _ _ _ ?_ ?_ ?_ ?_ ?_ ?_ _
  ·rcases Nat.lt_or_ge (i+1) s.size with h | h
   ·rw [a1 h];constructor <;> (intro q;exact ⟨by omega,q.2⟩)
   ·have:=U (by omega);constructor <;> (intro q;omega)
  ·intro q;rcases Nat.lt_or_ge (i+1) s.size with h | h
   ·exact a1 h
   ·have:=U (by omega);omega
  ·intro q;have h1:i+1<s.size:=by
    rcases Nat.lt_or_ge (i+1) s.size with h | h
    ·exact h
    ·have:=U (by omega);omega
   rcases Nat.lt_or_ge (i+2) s.size with h | h
   ·rw [a2 h];constructor <;> (intro q;exact ⟨by omega,q.2⟩)
   ·have:=b2 (by omega);constructor <;> (intro q;omega)
  ·intro q M;have h1:i+1<s.size:=by
    rcases Nat.lt_or_ge (i+1) s.size with h | h
    ·exact h
    ·have:=U (by omega);omega
   rcases Nat.lt_or_ge (i+2) s.size with h | h
   ·exact a2 h
   ·have:=b2 (by omega);omega
  ·rintro ⟨I,M,z⟩;have h1:i+1<s.size:=by
    rcases Nat.lt_or_ge (i+1) s.size with h | h
    ·exact h
    ·have:=U (by omega);omega
   have h2:i+2<s.size:=by
    rcases Nat.lt_or_ge (i+2) s.size with h | h
    ·exact h
    ·have:=b2 (by omega);omega
   have:=b3 (by omega);omega
  ·rintro ⟨I,M,z⟩;omega
theorem oe (h0:0<s.size→aa s 0≠239):∀ (g i:Nat),i≤s.size→s.size-i≤g →
  (∀ p,bM s g i=some p→∀ g',s'.size-(i+k)≤g'→bM s' g' (i+k)=some (p+k)) ∧
  (bM s g i=none→∀ g',s'.size-(i+k)≤g'→∃ g'',s'.size-(s.size+k)≤g''∧bM s' g' (i+k)=bM s' g'' (s.size+k))
 | 0,i,hi,hg=>by (have y:i=s.size:=by omega);subst y;exact ⟨fun p J=>(by cases J),fun _ g' D=>⟨g',D,rfl⟩⟩
 | g+1,i,hi,hg=>by
  have z:=hW.len;have hk:=hW.pos;rcases Nat.lt_or_ge i s.size with M | hge
  ·have hd:=yx hW i M;obtain ⟨d1,d2⟩:=Bp s i M;have hf:((Utf8.decode s i).1=65279∧0<i+k)↔((Utf8.decode s i).1=65279∧0<i):=by
    refine ⟨fun h=>⟨h.1,?_⟩,fun h=>⟨h.1,by omega⟩⟩;rcases Nat.eq_zero_or_pos i with U | U
    ·subst U;exact absurd (Bo s 0 h.1) (h0 M)
    ·exact U
   (have e0:bM s (g+1) i=if (Utf8.decode s i).1=0∨((Utf8.decode s i).1=65533∧(Utf8.decode s i).2=1)∨((Utf8.decode s i).1=65279∧0<i) then some i else bM s g (i+(Utf8.decode s i).2):=by rw [bM,if_pos M]);(have N:∀ g',s'.size-(i+k)≤g'→∃ I,g'=I+1∧bM s' g' (i+k)=if (Utf8.decode s i).1=0∨((Utf8.decode s i).1=65533∧(Utf8.decode s i).2=1)∨((Utf8.decode s i).1=65279∧0<i+k) then some (i+k) else bM s' I (i+(Utf8.decode s i).2+k):=by intro g' D;obtain ⟨I,rfl⟩:∃ I,g'=I+1:=⟨g'-1,by omega⟩;refine ⟨I,rfl,?_⟩;rw [bM,if_pos (by omega),hd,show i+k+(Utf8.decode s i).2=i+(Utf8.decode s i).2+k by omega]);rw [e0];simp only [hf] at N;by_cases hc:(Utf8.decode s i).1=0∨((Utf8.decode s i).1=65533∧(Utf8.decode s i).2=1)∨((Utf8.decode s i).1=65279∧0<i)
   ·simp only [if_pos hc] at N ⊢;refine ⟨fun p J g' D=>?_,fun h=>(by cases h)⟩;obtain ⟨I,_,O⟩:=N g' D;injection J with J;rw [O,←J]
   ·simp only [if_neg hc] at N ⊢;have ih:=oe h0 g (i+(Utf8.decode s i).2) d2 (by omega);refine ⟨fun p J g' D=>?_,fun h g' D=>?_⟩
    ·obtain ⟨I,q,O⟩:=N g' D;rw [O];exact ih.1 p J I (by omega)
    ·obtain ⟨I,q,O⟩:=N g' D;obtain ⟨g'',h1,h2⟩:=ih.2 h I (by omega);exact ⟨g'',h1,O.trans h2⟩
  ·(have y:i=s.size:=by omega);subst y;refine ⟨fun p J=>?_,fun _ g' D=>⟨g',D,rfl⟩⟩;rw [bM,if_neg (Nat.lt_irrefl _)] at J;cases J
end
theorem og (s:ByteArray):∀ (g i:Nat),(∀ j,i≤j→j<s.size→0<aa s j∧aa s j<128)→bM s g i=none
 | 0,_,_=>rfl
 | g+1,i,h=>by
  rw [bM];split
  ·rename_i D;obtain ⟨J,I⟩:=h i (Nat.le_refl _) D;rw [d8 s i I,if_neg (by simp only;omega)];exact og s g (i+1) fun j hj hl=>h j (by omega) hl
  ·rfl
theorem oh (s:ByteArray):∀ (k g i:Nat),i+k≤s.size→(∀ j,i≤j→j<i+k→0<aa s j∧aa s j<128)→bM s (g+k) i=bM s g (i+k)
 | 0,_,_,_,_=>rfl
 | k+1,g,i,I,h=>by obtain ⟨J,D⟩:=h i (Nat.le_refl _) (by omega);rw [←Nat.add_assoc,bM,if_pos (by omega),d8 s i D,if_neg (by simp only;omega)];simp only;rw [oh s k g (i+1) (by omega) fun j hj hl=>h j (by omega) (by omega),show i+1+k=i+(k+1) by omega]
end
end Go.Proofs.YtiebcdeafofgdaaGreatDoor

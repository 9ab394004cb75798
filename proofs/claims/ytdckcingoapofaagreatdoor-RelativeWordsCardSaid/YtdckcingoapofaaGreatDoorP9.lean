/-
  Part 9 of the proof: see the last text.
-/
import Derived.Test.YtdckcingoapofaaGreatDoorP8
import Derived.KernelRfl
import Derived.ChangeSame
import Derived.ChangeVars
import Derived.JoinedOf
import Derived.LaidLaws
import Derived.LaidHandle
import Derived.LaidMore
import Derived.SevenTiedAt
import Derived.Test.YtdckcingoapofaaGreatDoorRows
import Derived.Test.YtdckcingoapofaaGreatDoorProg
set_option linter.unusedVariables false
set_option linter.unusedSimpArgs false
set_option linter.unusedSectionVars false
section
namespace Go.Abs
open Go
structure Evs(l:List Int):Prop where
 rg:∀x∈l,0<=x/\x<5
 so:l.Pairwise (· < ·)
theorem Evs.len{l:List Int}(h:Evs l):l.length<=5:=by have:=Qjf h.so h.rg;simpa using this
def Qblw:List Int->Bool
 |[]=>true
 |x::xs=>xs.all (fun y=>decide (x<y))&&Qblw xs
theorem Qbbq:∀{l:List Int},Qblw l=true->l.Pairwise (· < ·)
 |[],_=>.nil
 |x::xs,h=>by
  simp only[Qblw,Zc,Zt,decide_eq_true_eq] at h;exact Zam.2 ⟨h.1,Qbbq h.2⟩
def evB(s:Nat):Bool:=match Qdp (s:Int) with
 |some l=>Qblw l&&l.all fun x=>decide (0<=x)&&decide (x<5)
 |none=>false
theorem Qbn3:(List.range 256).all evB=true:=by kernel_rfl
theorem Qbji{s:Int}(d:0<=s)(c:s<256):∃l,Qdp s=some l/\Evs l:=by
 have:=Zt.1 Qbn3 s.toNat (List.mem_range.2 (by omega));unfold evB at this;rw[show ((s.toNat:Nat):Int)=s from by omega] at this;split at this
 ·rename_i l b;simp only[Zc,Zt,decide_eq_true_eq] at this;exact⟨l,b,fun x a=>this.2 x a,Qbbq this.1⟩
 ·cases this
structure Mks(n:Nat)(ms:List Int):Prop where
 rg:∀x∈ms,0<=x/\x<n
 so:ms.Pairwise (· < ·)
structure Eds(al:List Int)(N:Int)(i k:Nat)(es:List Qb):Prop where
 rg:∀x∈es,0<=x.From/\0<=x.To/\x.To<N/\x.Event∈al/\(x.From<i\/x.From=i/\∃j:Nat,j<k/\al[j]? = some x.Event)
 so:es.Pairwise Qjc
 ln:es.length<=5*i+k
theorem Mks.up{n:Nat}{ms:List Int}(h:Mks n ms):Mks (n+1) ms:=⟨fun x a=>by have:=h.rg x a;omega,h.so⟩
theorem Mks.add{n:Nat}{ms:List Int}(h:Mks n ms):Mks (n+1) (ms++[(n:Int)]):=by
 refine⟨fun x a=>?_,?_⟩
 ·rcases Zp.1 a with a|a
  ·have:=h.rg x a;omega
  ·simp at a;omega
 ·rw[Zbb];exact⟨h.so,by simp,fun x a y b=>by simp at b;have:=h.rg x a;omega⟩
theorem Mks.len{n:Nat}{ms:List Int}(h:Mks n ms):ms.length<=n:=by have:=Qjf h.so h.rg;simpa using this
section
variable{al:List Int}(hal:Evs al){N:Int}{i k:Nat}{es:List Qb}
theorem Eds.up(h:Eds al N i k es):Eds al N i (k+1) es:=⟨fun x a=>by
 obtain⟨f,e,d,c,b⟩:=h.rg x a
 grind,h.so,by have:=h.ln;omega⟩
theorem Eds.next(h:Eds al N i k es)(b:k<=5):Eds al N (i+1) 0 es:=⟨fun x a=>by
 obtain⟨g,f,e,d,c⟩:=h.rg x a
 grind,h.so,by have:=h.ln;omega⟩
include hal in
theorem Eds.add(h:Eds al N i k es)(c:k<al.length){t:Int}(e:0<=t/\t<N):Eds al N i (k+1) (es++[⟨(i:Int),al[k],t⟩]):=by
 refine⟨fun x a=>?_,?_,by have:=h.ln;simp only[Zx,Zs,Zaj];omega⟩
 ·rcases Zp.1 a with a|a
  ·exact h.up.rg x a
  ·simp at a;subst a;exact⟨by simp only;omega,e.1,e.2,Zr c,.inr ⟨rfl,k,by omega,Zj c⟩⟩
 ·rw[Zbb];refine⟨h.so,by simp,fun x a y d=>?_⟩;simp at d;subst d;obtain⟨_,_,_,_,b⟩:=h.rg x a;rcases b with b|⟨b,j,h6,h7⟩
  ·exact .inl b
  ·refine .inr ⟨b,?_⟩;obtain⟨g,f⟩:=Zm.1 h7;rw[<-f];exact Zbr.1 hal.so j k g c h6
end
structure Q6k(g:Qu):Prop where
 st:0<=g.zF/\g.zF<256
 to:∀x∈[g.To.1.1,g.To.1.2.1,g.To.1.2.2.1,g.To.1.2.2.2.1,g.To.1.2.2.2.2,g.To.2.1.1,g.To.2.1.2.1,g.To.2.1.2.2.1,g.To.2.1.2.2.2.1,g.To.2.1.2.2.2.2,g.To.2.2.1.1,g.To.2.2.1.2.1,g.To.2.2.1.2.2.1,g.To.2.2.1.2.2.2.1,g.To.2.2.1.2.2.2.2,g.To.2.2.2.1.1,g.To.2.2.2.1.2.1,g.To.2.2.2.1.2.2.1,g.To.2.2.2.1.2.2.2.1,g.To.2.2.2.1.2.2.2.2,g.To.2.2.2.2.1,g.To.2.2.2.2.2.1,g.To.2.2.2.2.2.2.1,g.To.2.2.2.2.2.2.2.1,g.To.2.2.2.2.2.2.2.2],0<=x/\x<256
theorem Qbfd{al:List Int}(hal:Evs al)(fuel:Nat)(v:1099511627776<=fuel){L:List Int}(B:L.length=25)(q:∀x∈L,0<=x/\x<256){N:Int}(A:1<=N/\N<=5){i:Nat}(z:(i:Int)<N){ms:List Int}{es:List Qb}(p:Eds al N i 0 es):
  ∃b,Eds al N (i+1) 0 b/\Qbp (fun(h:Int×List Qb->Option (List Int×List Qb))((k23,a24):Int×(List Qb))=>(((if (k23<(al.length:Int)) then some (decide (k23<5)) else some false)).bind fun(g:Bool)=>(if g then ((((inO 5 (i:Int)).bind fun _=>((inO 5 k23).bind fun _=>((rowO L (Int.toNat (i:Int)*5+Int.toNat k23*1)).bind fun f=>((remO .i64 (IntKind.wrap .i64 f) (IntKind.wrap .i64 (N+2))).bind fun a=>(if (a<N) then ((getO al k23).bind fun e=>((appO a24 [(Qb.mk (i:Int) e a)]).bind fun d=>some d)) else some a24)))))).bind fun(j:List Qb)=>h ((IntKind.wrap .i64 (k23+1)),j)) else some (ms,a24)))) fuel (0,es)=some (ms,b):=by
 have y:=hal.len;have:=Qb1 (F:=fun(h:Int×List Qb->Option (List Int×List Qb))((k23,a24):Int×(List Qb))=>(((if (k23<(al.length:Int)) then some (decide (k23<5)) else some false)).bind fun(g:Bool)=>(if g then ((((inO 5 (i:Int)).bind fun _=>((inO 5 k23).bind fun _=>((rowO L (Int.toNat (i:Int)*5+Int.toNat k23*1)).bind fun f=>((remO .i64 (IntKind.wrap .i64 f) (IntKind.wrap .i64 (N+2))).bind fun a=>(if (a<N) then ((getO al k23).bind fun e=>((appO a24 [(Qb.mk (i:Int) e a)]).bind fun d=>some d)) else some a24)))))).bind fun(j:List Qb)=>h ((IntKind.wrap .i64 (k23+1)),j)) else some (ms,a24))))
  (fun x=>∃k:Nat,x.1=(k:Int)/\k<=al.length/\Eds al N i k x.2) (fun x=>al.length-x.1.toNat) (fun _ r=>∃b,r=some (ms,b)/\Eds al N (i+1) 0 b) (by
   rintro w ⟨k,es⟩ ⟨k,rfl,s,l⟩ ih;replace l:Eds al N i k es:=l;replace s:k<=al.length:=s;dsimp only;by_cases c:k<al.length
   ·rw[if_pos (by omega)];simp only[Za,show decide ((k:Int)<5)=true from by simp;omega,if_true];rw[show inO 5 (i:Int)=some () from by unfold inO;rw[if_pos (by omega)],show inO 5 (k:Int)=some () from by unfold inO;rw[if_pos (by omega)]];simp only[Za,Zaw];have n:i*5+k*1<L.length:=by omega
    have t:=q _ (Zr n);rw[show rowO L (i*5+k*1)=some L[i*5+k*1] from by unfold rowO;grind];simp only[Za];rw[Qx5 (x:=L[i*5+k*1]) (by omega) (by omega),Qx5 (x:=N+2) (by omega) (by omega),show remO .i64 L[i*5+k*1] (N+2)=some (L[i*5+k*1].tmod (N+2)) from by unfold remO;rw[if_neg (by omega)]];simp only[Za];have m:0<=L[i*5+k*1].tmod (N+2):=Int.tmod_nonneg _ t.1;have u:=l.ln;by_cases o:L[i*5+k*1].tmod (N+2)<N
    ·rw[if_pos o,Qy c];simp only[Za];rw[Qbm (by grind [List.length_cons,List.length_nil,lim])];simp only[Za];rw[Qx (by omega)];exact ih _ ⟨k+1,rfl,c,l.add hal c ⟨m,o⟩⟩ (by simp only;omega)
    ·rw[if_neg o];simp only[Za];rw[Qx (by omega)];exact ih _ ⟨k+1,rfl,c,l.up⟩ (by simp only;omega)
   ·rw[if_neg (by omega)];exact⟨es,rfl,l.next (by omega)⟩) fuel (0,es) ⟨0,rfl,Zw _,p⟩ (by simp only;omega)
 grind
theorem Qbdi{al:List Int}(hal:Evs al):Right ⟨al,0,[],[]⟩ :=
 ⟨fun x a=>by have:=hal.rg x a;omega,hal.so,⟨by simp,by simp⟩,by simp,.nil,by simp,.nil⟩
theorem Qbn4{al:List Int}(hal:Evs al){g:Qu}(T:Q6k g):∃m,Right m/\m.zB=al/\Qgr al g=some (Qfr m)/\m.zF<=5:=by
 have hl:=hal.len;obtain⟨A,c⟩:=T;unfold Qgr Qcw;obtain⟨fuel,B,n⟩ : ∃f,Q0=f/\1099511627776<=f:=⟨_,rfl,Ze _⟩;rw[B,Qbfa (by unfold lim;omega)];simp only[Za];by_cases b:g.zF>=250
 ·rw[if_pos b];exact⟨⟨al,0,[],[]⟩,Qbdi hal,rfl,rfl,by simp⟩
 rw[if_neg b];have E:[g.To.1.1,g.To.1.2.1,g.To.1.2.2.1,g.To.1.2.2.2.1,g.To.1.2.2.2.2,g.To.2.1.1,g.To.2.1.2.1,g.To.2.1.2.2.1,g.To.2.1.2.2.2.1,g.To.2.1.2.2.2.2,g.To.2.2.1.1,g.To.2.2.1.2.1,g.To.2.2.1.2.2.1,g.To.2.2.1.2.2.2.1,g.To.2.2.1.2.2.2.2,g.To.2.2.2.1.1,g.To.2.2.2.1.2.1,g.To.2.2.2.1.2.2.1,g.To.2.2.2.1.2.2.2.1,g.To.2.2.2.1.2.2.2.2,g.To.2.2.2.2.1,g.To.2.2.2.2.2.1,g.To.2.2.2.2.2.2.1,g.To.2.2.2.2.2.2.2.1,g.To.2.2.2.2.2.2.2.2].length=25:=rfl;generalize [g.To.1.1,g.To.1.2.1,g.To.1.2.2.1,g.To.1.2.2.2.1,g.To.1.2.2.2.2,g.To.2.1.1,g.To.2.1.2.1,g.To.2.1.2.2.1,g.To.2.1.2.2.2.1,g.To.2.1.2.2.2.2,g.To.2.2.1.1,g.To.2.2.1.2.1,g.To.2.2.1.2.2.1,g.To.2.2.1.2.2.2.1,g.To.2.2.1.2.2.2.2,g.To.2.2.2.1.1,g.To.2.2.2.1.2.1,g.To.2.2.2.1.2.2.1,g.To.2.2.2.1.2.2.2.1,g.To.2.2.2.1.2.2.2.2,g.To.2.2.2.2.1,g.To.2.2.2.2.2.1,g.To.2.2.2.2.2.2.1,g.To.2.2.2.2.2.2.2.1,g.To.2.2.2.2.2.2.2.2]=L at c E |-;have P:0<=g.zF.tmod 5/\g.zF.tmod 5<5:=⟨Int.tmod_nonneg _ A.1,Int.tmod_lt_of_pos _ (by omega)⟩;have C:1<=IntKind.wrap .i64 (1+(IntKind.wrap .i64 (Int.tmod g.zF 5)))/\IntKind.wrap .i64 (1+(IntKind.wrap .i64 (Int.tmod g.zF 5)))<=5:=by
  grind [Qx5]
 generalize IntKind.wrap .i64 (1+(IntKind.wrap .i64 (Int.tmod g.zF 5)))=N at C |-;have e:=Qb1 (F:=(fun(z:Int×List Int×List Int×List Qb×Int×List Int×List Qb->Option (List Int×List Int×List Qb×Int×List Int×List Qb))((i8,c9,c10,c11,a12,a13,a14):Int×(List Int)×(List Int)×(List Qb)×Int×(List Int)×(List Qb))=>(if (i8<a12) then ((((((shrO .u8 g.Marks i8).bind fun w=>(if ((andI .u8 w 1)==1) then ((appO a13 [i8]).bind fun v=>some v) else some a13))).bind fun(O:List Int)=>Qbp (fun y((a,h):Int×(List Qb))=>(((if (a<(al.length:Int)) then some (decide (a<5)) else some false)).bind fun(u:Bool)=>(if u then ((((inO 5 i8).bind fun _=>((inO 5 a).bind fun _=>((rowO L (Int.toNat i8*5+Int.toNat a*1)).bind fun t=>((remO .i64 (IntKind.wrap .i64 t) (IntKind.wrap .i64 (a12+2))).bind fun j=>(if (j<a12) then ((getO al a).bind fun s=>((appO h [(Qb.mk i8 s j)]).bind fun q=>some q)) else some h)))))).bind fun(M:List Qb)=>y ((IntKind.wrap .i64 (a+1)),M)) else some (O,h)))) fuel (0,a14))).bind fun((J,I):(List Int)×(List Qb))=>z ((IntKind.wrap .i64 (i8+1)),c9,c10,c11,a12,J,I)) else some (c9,c10,c11,a12,a13,a14))))
  (fun x=>∃(i:Nat)(ms:List Int)(es:List Qb),x=((i:Int),[],[],[],N,ms,es)/\(i:Int)<=N/\Mks i ms/\Eds al N i 0 es) (fun x=>(N-x.1).toNat)
  (fun _ r=>∃(i:Nat)(ms:List Int)(es:List Qb),r=some ([],[],[],N,ms,es)/\(i:Int)=N/\Mks i ms/\Eds al N i 0 es) (by
   rintro k _ ⟨i,ms,es,rfl,hi,hm,he⟩ ih;dsimp only;by_cases d:(i:Int)<N
   ·rw[if_pos d,show shrO .u8 g.Marks (i:Int)=some (g.Marks.fdiv (2 ^ (min (Int.toNat (i:Int)) (IntKind.bits .u8)))) from by unfold shrO;rw[if_neg (by omega)]];simp only[Za];have S:=hm.len;by_cases hb:(andI .u8 (g.Marks.fdiv (2 ^ (min (Int.toNat (i:Int)) (IntKind.bits .u8)))) 1==1)=true
    ·rw[if_pos hb,Qbm (by grind [List.length_cons,List.length_nil,lim])];simp only[Za];obtain⟨H,o,p⟩:=Qbfd hal fuel n E c C d (ms:=ms++[(i:Int)]) he;rw[p];simp only[Za];rw[Qx (by omega)];exact ih _ ⟨i+1,_,_,rfl,by omega,hm.add,o⟩ (by simp only;omega)
    ·rw[if_neg hb];simp only[Za];obtain⟨H,o,p⟩:=Qbfd hal fuel n E c C d (ms:=ms) he;rw[p];simp only[Za];rw[Qx (by omega)];exact ih _ ⟨i+1,_,_,rfl,by omega,hm.up,o⟩ (by simp only;omega)
   grind) fuel (0,[],[],[],N,[],[]) ⟨0,[],[],rfl,by omega,⟨by simp,.nil⟩,⟨by simp,.nil,by simp⟩⟩ (by simp only;omega)
 obtain⟨i,ms,es,o,p,R,Q⟩:=e;rw[o];simp only[Za];have hr:Right ⟨al,N,ms,es⟩:=⟨fun x l=>by have:=hal.rg x l;omega,hal.so,⟨by simp only;omega,by simp only;omega⟩,fun x l=>by have:=R.rg x l;simp only;omega,R.so,fun x l=>by
  obtain⟨k1,k2,X,W,U⟩:=Q.rg x l
  grind,Q.so⟩
 rw[Qx8 hr]
 grind
end Go.Abs
end
section
namespace Go.Abs
open Go
def upto(n:Int):List Int:=(List.range n.toNat).map fun(i:Nat)=>(i:Int)
theorem Qyo{n x:Int}:x∈upto n↔0<=x/\x<n:=by
 simp only[upto,Zl,List.mem_range];constructor
 ·grind
 ·rintro⟨b,a⟩;exact⟨x.toNat,by omega,by omega⟩
theorem Qbjj(n:Int):(upto n).Pairwise (· < ·):=by
 unfold upto;rw[List.pairwise_map];exact List.pairwise_lt_range.imp fun h=>by omega
theorem Qpy(n:Int):(upto n).length=n.toNat:=by simp[upto]
theorem Q4r{n:Int}{i:Nat}(h:i<(upto n).length):(upto n)[i]=(i:Int):=by simp[upto]
theorem Q16{X S R α:Type}{F:(X->Option R)->X->Option R}{fuel:Nat}{l:List α}(a:Int->S->X)(stp:S->α->S)(I:Nat->S->Prop)(K:S->Option R)(d:l.length<big)(i:1099511627776<=fuel)(step:∀(k:X->Option R)(n:Nat)(s:S)(h:n<l.length),I n s->F k (a n s)=k (a (IntKind.wrap .i64 ((n:Int)+1)) (stp s l[n])))(keep:∀(n:Nat)(s:S)(h:n<l.length),I n s->I (n+1) (stp s l[n]))(b:∀(k:X->Option R)(s:S),I l.length s->F k (a l.length s)=K s){s0:S}(e:I 0 s0):Qbp F fuel (a 0 s0)=K (l.foldl stp s0):=by
 have hb:l.length<1000000000000:=d;have:=Qhx (F:=F) (len:=l.length) (fun n s=>a n s) I (fun n s=>K ((l.drop n).foldl stp s)) (fun k n s g c f=>by
  grind [Go.step,Qx,List.drop_eq_getElem_cons]) (fun k s c=>by rw[b k s c];simp) fuel 0 s0 (Zw _) (by omega) e
 simpa using this
theorem Qbjk{X R α:Type}{F:(X->Option R)->X->Option R}{fuel:Nat}{l:List α}(b:Int->X)(p:α->Bool)(a:α->Option R)(K:Option R)(f:l.length<big)(i:1099511627776<=fuel)(step:∀(k:X->Option R)(n:Nat)(h:n<l.length),F k (b n)=if p l[n] then a l[n] else k (b (IntKind.wrap .i64 ((n:Int)+1))))(c:∀(k:X->Option R),F k (b l.length)=K):Qbp F fuel (b 0)=match l.find? p with|some x=>a x|none=>K:=by
 have hb:l.length<1000000000000:=f;have:=Qhx (F:=F) (len:=l.length) (fun n(_:Unit)=>b n) (fun _ _=>True) (fun n _=>match (l.drop n).find? p with|some x=>a x|none=>K) (fun k n s d g e=>by
  rw[step k n d,Qx (by omega),e () trivial,Zai d,List.find?_cons];cases p l[n]<;>simp) (fun k s g=>by rw[c k];simp) fuel 0 () (Zw _) (by omega) trivial
 simpa using this
def at0{α:Type}(d:α)(l:List α)(x:Int):α:=l.getD x.toNat d
abbrev ati(l:List Int)(x:Int):Int:=at0 0 l x
theorem Qbn5{α:Type}{d:α}{l:List α}{x:Int}(b:0<=x)(a:x<l.length):getO l x=some (at0 d l x):=by
 simp_all[getO,at0,if_pos,Zbt,Zj]
theorem Qbn6{α:Type}{l:List α}{x:Int}{y:α}(b:0<=x)(a:x<l.length):setO l x y=some (l.set x.toNat y):=by
 simp_all[setO,if_pos]
theorem Qbbr{n:Nat}{x:Int}(b:0<=x)(a:x<n):inO n x=some ():=by
 unfold inO;rw[if_pos ⟨b,a⟩]
theorem Q6l{α:Type}{l:List α}{n:Nat}(h:l.length=n):lenO l n=some ():=by
 unfold lenO;rw[if_pos h]
end Go.Abs
end
section
namespace Go.Abs
open Go
theorem bytes_beq(a b:ByteArray):(a==b)=decide (a=b):=by
 cases a;cases b;rw[Bool.eq_iff_iff];simp only[decide_eq_true_eq,ByteArray.mk.injEq];exact beq_iff_eq (α:=Array UInt8)
theorem Qbbs{a:Type}{v:a}{k k' : ByteArray}:∀{m:List (ByteArray×a)},hasM (setM m k v) k'=(decide (k'=k)||hasM m k')
 |[]=>by simp[setM,hasM,bytes_beq]
 |(q,w)::m=>by
  have b:=Qbbs (v:=v) (k:=k) (k':=k') (m:=m);simp only[setM];by_cases h:k=q
  ·simp_all[bytes_beq,decide_true,if_true,Qky]
  ·simp only[bytes_beq,h,decide_false,Zg,if_false,Qky]
   grind
theorem Qx9{a:Type}{z v:a}{k k' : ByteArray}:∀{m:List (ByteArray×a)},getM (setM m k v) k' z=if k'=k then v else getM m k' z
 |[]=>by simp[setM,getM,bytes_beq]
 |(q,w)::m=>by
  have b:=Qx9 (z:=z) (v:=v) (k:=k) (k':=k') (m:=m);simp only[setM];by_cases h:k=q
  ·simp_all[bytes_beq,decide_true,if_true,getM]
  ·simp only[bytes_beq,h,decide_false,Zg,if_false,getM]
   grind
theorem Q6m{α:Type}{l:List α}{j:Nat}{y:α}(h:j<l.length):setO l (j:Int) y=some (l.set j y):=by
 simp[setO,h]
structure RefI(σ:Nat->ByteArray)(N i:Nat)(c:List (ByteArray×Int))(l:List Int):Prop where
 len:l.length=N
 has:∀k,hasM c k=true↔∃j,j<i/\σ j=k
 at_:∀j,j<i->l[j]? = some (getM c (σ j) 0)
 rng:∀j,j<i->0<=getM c (σ j) 0/\getM c (σ j) 0<c.length
 inj:∀j j',j<i->j'<i->getM c (σ j) 0=getM c (σ j') 0->σ j=σ j'
 cnt:c.length<=i
 sur:∀m:Nat,m<c.length->∃j,j<i/\getM c (σ j) 0=(m:Int)
theorem Qbbt{N:Nat}(hN:N<=4096){sig:Int->Option ByteArray}{σ:Nat->ByteArray}(X:∀j:Nat,j<N->sig (j:Int)=some (σ j)):
  ∃c l,Qli (N:Int) sig=some (l,(c.length:Int))/\RefI σ N N c l:=by
 unfold Qli Qet;have A:mkO (N:Int) (0:Int)=some (List.replicate N 0):=by
  unfold mkO;rw[if_pos ⟨by omega,by unfold lim;omega⟩];simp
 rw[A,Za];have U:Int.toNat (N:Int)=N:=by simp
 rw[U];obtain⟨fuel,M,hge⟩ : ∃f,Q0=f/\1099511627776<=f:=⟨_,rfl,Ze _⟩;rw[M]
 suffices h:∃c l,Qbp (fun I((o,n,C):Int×(List (ByteArray×Int))×(List Int))=>(if (o<(N:Int)) then ((sig o).bind fun w=>(((if (hasM n w) then some ((getM n w 0),n) else some ((n.length:Int),(setM n w (n.length:Int))))).bind fun((H,O):Int×(List (ByteArray×Int)))=>((inO N o).bind fun S=>((setO C o H).bind fun F=>I ((IntKind.wrap .i64 (o+1)),O,F))))) else some (n,C))) fuel (0,[],List.replicate N 0)=some (c,l)/\RefI σ N N c l by
  obtain⟨c,l,E,R⟩:=h;refine⟨c,l,?_,R⟩;rw[E,Za];dsimp only;rw[Q6l R.len];rfl
 refine Qb1 (fun x:Int×List (ByteArray×Int)×List Int=>∃i:Nat,x.1=(i:Int)/\i<=N/\RefI σ N i x.2.1 x.2.2) (fun x=>N-x.1.toNat) (fun _ r=>∃c l,r=some (c,l)/\RefI σ N N c l) (fun k x W Q=>?_) fuel (0,[],List.replicate N 0) ⟨0,rfl,by omega,⟨by simp,fun k=>by simp[hasM],fun j h=>by omega,fun j h=>by omega,fun j s h=>by omega,by simp,fun m h=>by simp at h⟩⟩ (by simp only;omega);obtain⟨x,c,l⟩:=x;obtain⟨i,E,hi,d⟩:=W;simp only at E d;subst E;dsimp only;by_cases t:i<N
 ·rw[if_pos (by omega),X i t,Za];have u:∀v,setO l (i:Int) v=some (l.set i v):=fun v=>Q6m (by rw[d.len];exact t);cases hh:hasM c (σ i) with
  |true =>
   rw[if_pos rfl,Za];dsimp only;rw[Qbbr (by omega) (by omega),Za,u,Za,Qx (by omega)];refine Q _ ⟨i+1,rfl,by omega,?_⟩ (by simp only;omega);obtain⟨T,L,e0⟩:=(d.has (σ i)).1 hh;refine⟨by simp[d.len],fun k=>(d.has k).trans ⟨fun⟨j,g,e⟩=>⟨j,by omega,e⟩,fun⟨j,g,e⟩=>?_⟩,fun j g=>?_,fun j g=>?_,fun j s g B e=>?_,by have:=d.cnt;simp only;omega,fun m A=>?_⟩
   ·grind
   ·by_cases q:j=i
    ·subst q;simp[d.len,t]
    ·rw[List.getElem?_set_ne (by omega)];exact d.at_ j (by omega)
   ·by_cases q:j=i
    ·subst q;rw[<-e0];exact d.rng T L
    ·exact d.rng j (by omega)
   ·have r:∀j,j<i+1->∃P,P<i/\σ P=σ j:=fun j g=>by
     grind
    obtain⟨a,ha,ea⟩:=r j g;obtain⟨b,hb,eb⟩:=r s B;rw[<-ea,<-eb] at e |-;exact d.inj a b ha hb e
   ·obtain⟨j,g,e⟩:=d.sur m A
    grind
  |false =>
   rw[if_neg (by simp),Za];dsimp only;rw[Qbbr (by omega) (by omega),Za,u,Za,Qx (by omega)];refine Q _ ⟨i+1,rfl,by omega,?_⟩ (by simp only;omega);have J:∀j,j<i->σ j≠σ i:=fun j g e=>by
    have:=(d.has (σ i)).2 ⟨j,g,e⟩
    grind
   have p:(setM c (σ i) (c.length:Int)).length=c.length+1:=by rw[Qqj hh];simp
   have z:∀j,j<i->getM (setM c (σ i) (c.length:Int)) (σ j) 0=getM c (σ j) 0:=fun j g=>by rw[Qx9,if_neg (J j g)]
   have y:getM (setM c (σ i) (c.length:Int)) (σ i) 0=(c.length:Int):=by rw[Qx9,if_pos rfl]
   refine⟨by simp[d.len],fun k=>?_,fun j g=>?_,fun j g=>?_,fun j s g B e=>?_,by have:=d.cnt;simp only[p];omega,fun m A=>?_⟩
   ·simp only[Qbbs,Zat,decide_eq_true_eq];constructor
    ·rintro (rfl|h)
     ·grind
     ·obtain⟨j,g,e⟩:=(d.has k).1 h;grind
    ·rintro⟨j,g,e⟩;by_cases q:j=i
     ·grind
     ·exact .inr ((d.has k).2 ⟨j,by omega,e⟩)
   ·by_cases q:j=i
    ·subst q;simp only[y];simp[d.len,t]
    ·simp only[z j (by omega)];rw[List.getElem?_set_ne (by omega)];exact d.at_ j (by omega)
   ·by_cases q:j=i
    ·grind
    ·simp only[z j (by omega),p];have:=d.rng j (by omega);omega
   ·simp only at e;by_cases q:j=i
    ·by_cases e2:s=i
     ·rw[q,e2]
     ·rw[q,y,z s (by omega)] at e;have:=d.rng s (by omega);omega
    ·by_cases e2:s=i
     ·rw[e2,y,z j (by omega)] at e;have:=d.rng j (by omega);omega
     ·rw[z j (by omega),z s (by omega)] at e;exact d.inj j s (by omega) (by omega) e
   ·simp only[p] at A;by_cases q:m=c.length
    ·grind
    ·obtain⟨j,g,e⟩:=d.sur m (by omega)
     grind
 grind
end Go.Abs
end
section
namespace Go.Abs
open Go
theorem Qvl{a:Type}[DecidableEq a]:∀{l m:List a},l.Nodup->(∀x∈l,x∈m)->l.length<=m.length
 |[],_,_,_=>by simp
 |x::l,m,h,c=>by
  obtain⟨e,d⟩:=List.nodup_cons.1 h;have f:=c x (by simp);have:=Qvl (l:=l) (m:=m.erase x) d fun y b=>(List.mem_erase_of_ne (by rintro rfl;exact e b)).2 (c y (by simp[b]))
  grind
theorem Qbbu{k k' : Nat}(R:Nat->Nat->Prop)(a:∀m,m<k->∃v,v<k'/\R m v)(inj:∀m b v,m<k->b<k->R m v->R b v->m=b):k<=k':=by
 have key:∀n,n<=k->∃l:List Nat,l.length=n/\l.Nodup/\(∀v∈l,v<k'/\∃m,m<n/\R m v):=by
  intro n
  induction n with
  |zero=>simp_all
  |succ n e =>
   intro i;obtain⟨l,d,c,g⟩:=e (by omega);obtain⟨v,f,hr⟩:=a n (by omega);refine⟨v::l,by simp[d],List.nodup_cons.2 ⟨fun j=>?_,c⟩,fun x h=>?_⟩
   all_goals grind
 obtain⟨l,d,c,g⟩:=key k (Ze _);have:l.length<=(List.range k').length:=by
  refine Qvl c fun v f=>?_
  grind
 simpa[d] using this
theorem RefI.finer{σ a : Nat->ByteArray}{N:Nat}{c g : List (ByteArray×Int)}{l o : List Int}(h:RefI σ N N c l)(n : RefI a N N g o)(q:∀j b,j<N->b<N->a j=a b->σ j=σ b):c.length<=g.length:=by
 refine Qbbu (fun m v=>∃j,j<N/\getM c (σ j) 0=(m:Int)/\getM g (a j) 0=(v:Int)) (fun m k=>?_) (fun m u v k p s r=>?_)
 ·obtain⟨j,f,e⟩:=h.sur m k;have hr:=n.rng j f;exact⟨(getM g (a j) 0).toNat,by omega,j,f,e,by omega⟩
 ·obtain⟨j,f,w,e2⟩:=s;obtain⟨b,d,t,i⟩:=r;have:=q j b f d (n.inj j b f d (e2.trans i.symm))
  grind
end Go.Abs
end
section
namespace Go.Abs
open Go
section
variable{a:Qa}(h:Right a)
include h
theorem Qbmy{α:Type}(z:α):mkO a.zF z=some (List.replicate a.zF.toNat z):=by
 unfold mkO;rw[if_pos ⟨h.st.1,by have:=h.st.2;unfold lim;omega⟩]
theorem Qbfe:∃b,Qj6 a=some b/\b.length=a.zF.toNat:=by
 unfold Qj6 Qdh;rw[Qbmy h,Za];obtain⟨fuel,o,z⟩ : ∃f,Q0=f/\1099511627776<=f:=⟨_,rfl,Ze _⟩;rw[o];have hb:a.zC.length<1000000000000:=h.small.1.2.1
 suffices y:∃b,Qbp (fun u((g,s):Int×(List Bool))=>(if (g<(a.zC.length:Int)) then ((getO a.zC g).bind fun p=>((inO (Int.toNat a.zF) p).bind fun t=>((setO s p true).bind fun j=>u ((IntKind.wrap .i64 (g+1)),j)))) else some s)) fuel (0,List.replicate a.zF.toNat false)=some b/\b.length=a.zF.toNat by
  obtain⟨b,e,q⟩:=y;exact⟨b,by rw[e,Za,Q6l q];rfl,q⟩
 refine Qb1 (fun x:Int×List Bool=>∃i:Nat,x.1=(i:Int)/\i<=a.zC.length/\x.2.length=a.zF.toNat) (fun x=>a.zC.length-x.1.toNat) (fun _ r=>∃b:List Bool,r=some b/\b.length=a.zF.toNat) (fun k x w v=>?_) fuel (0,List.replicate a.zF.toNat false) ⟨0,rfl,by omega,by simp⟩ (by simp only;omega);obtain⟨x,c⟩:=x;obtain⟨i,e,B,n⟩:=w;simp only at e n;subst e;dsimp only;by_cases d:i<a.zC.length
 ·have A:=h.ma0 a.zC[i] (Zr d);obtain⟨m,l⟩ : ∃m:Nat,a.zC[i]=(m:Int):=⟨a.zC[i].toNat,by omega⟩;rw[if_pos (by omega),Qy d,Za,Qbbr (by omega) (by omega),Za,l,Q6m (by omega),Za,Qx (by omega)];exact v _ ⟨i+1,rfl,by omega,by simp[n]⟩ (by simp only;omega)
 ·rw[if_neg (by omega)];exact⟨c,rfl,n⟩
end
end Go.Abs
end
section
namespace Go.Abs
open Go
theorem Qbbv:∀(a:List Int)(b:ByteArray),(a.foldl (fun r n=>r.push (UInt8.ofNat n.toNat)) b).data.toList=b.data.toList++a.map fun n=>UInt8.ofNat n.toNat
 |[],b=>by simp
 |n::a,b=>by
  rw[Zbd,Qbbv a];simp[ByteArray.push]
theorem Qbbw(a:List Int):(strB a).data.toList=a.map fun n=>UInt8.ofNat n.toNat:=by
 unfold strB;rw[Qbbv];simp
theorem Q17{x y:Int}(b:0<=x/\x<256)(a:0<=y/\y<256)(h:UInt8.ofNat x.toNat=UInt8.ofNat y.toNat):x=y:=by
 have:=congrArg UInt8.toNat h;simp only[UInt8.toNat_ofNat'] at this;omega
def hiB(v:Int):Int:=IntKind.wrap .u8 (Int.fdiv v (2 ^ (min (Int.toNat 8) (IntKind.bits .i64))))
def loB(v:Int):Int:=IntKind.wrap .u8 v
theorem Qbff{v:Int}(h:0<=v/\v<65536):hiB v=v / 256:=by
 unfold hiB;rw[show (2:Int) ^ (min (Int.toNat 8) (IntKind.bits .i64))=256 from by decide,Int.fdiv_eq_ediv_of_nonneg _ (by decide)];exact Qbjd (by omega) (by omega)
theorem Qbfg{v:Int}(h:0<=v/\v<65536):loB v=v % 256:=by
 unfold loB;simp[IntKind.wrap,IntKind.bits,IntKind.signed]
theorem Qbn7{v w:Int}(e:0<=v/\v<65536)(d:0<=w/\w<65536){K f : List Int}(h:strB (hiB v::loB v::K)=strB (hiB w::loB w::f)):v=w:=by
 have c:=congrArg (fun b:ByteArray=>b.data.toList) h;simp only[Qbbw,Zb,Zo] at c;rw[Qbff e,Qbff d,Qbfg e,Qbfg d] at c;have a:=Q17 (x:=v / 256) (y:=w / 256) (by omega) (by omega) c.1;have b:=Q17 (x:=v % 256) (y:=w % 256) (by omega) (by omega) c.2.1;omega
theorem Qya{b:List Int}{v:Int}(hb:b.length<1000000000):Qfx b v=some (b++[hiB v,loB v]):=by
 unfold Qfx Qc5;rw[Qbm (by simp;unfold lim;omega)];rfl
end Go.Abs
end
section
namespace Go.Abs
open Go
end Go.Abs
end
section
namespace Go.Abs
open Go
theorem RefI.ati{σ:Nat->ByteArray}{N:Nat}{c:List (ByteArray×Int)}{l:List Int}(h:RefI σ N N c l){j:Nat}(a:j<N):ati l (j:Int)=getM c (σ j) 0:=by
 have:=h.at_ j a;simp[Go.Abs.ati,at0,Zbt,this]
end Go.Abs
end
section
namespace Go.Abs
open Go
theorem Qbfh{b:Type}{v:b}{k k' : Int}:∀{m:List (Int×b)},hasM (setM m k v) k'=(decide (k'=k)||hasM m k')
 |[]=>by
  simp only[setM,hasM,Zae,List.any_nil,Bool.or_false]
  grind
 |(q,w)::m=>by
  by_cases c:k=q
  ·subst c;simp only[setM,beq_self_eq_true,if_true,Qky]
   grind
  ·have a : (k==q)=false:=by simp[c]
   simp only[setM,a,Zg,if_false,Qky];rw[Qbfh (m:=m)];cases (k'==q)<;>cases decide (k'=k)<;>simp
structure FndC(N:Nat)(cl:List Int)(found:List Int)(c:List (Int×Int)):Prop where
 rg:∀f∈found,0<=f/\f<N
 nd:(found.map fun f=>ati cl f).Nodup
 has:∀v,hasM c v=true↔∃f∈found,ati cl f=v
theorem FndC.len{N:Nat}{cl:List Int}(hc:∀j:Nat,j<N->0<=ati cl j/\ati cl j<N){a:List Int}{c:List (Int×Int)}(h:FndC N cl a c):a.length<=N:=by
 have:=Qvl h.nd (m:=(List.range N).map fun j:Nat=>(j:Int)) fun v b=>by
  obtain⟨f,d,rfl⟩:=Zl.1 b;have g:=h.rg f d;have e:=hc f.toNat (by omega);rw[show ((f.toNat:Nat):Int)=f from by omega] at e;exact Zl.2 ⟨(ati cl f).toNat,List.mem_range.2 (by omega),by omega⟩
 simpa using this
theorem FndC.add{N:Nat}{cl a:List Int}{c:List (Int×Int)}(h:FndC N cl a c){t:Int}(i:0<=t/\t<N)(j:hasM c (ati cl t)=false)(v:Int):FndC N cl (a++[t]) (setM c (ati cl t) v):=by
 refine⟨fun f b=>?_,?_,fun w=>?_⟩
 ·rcases Zp.1 b with b|b
  ·exact h.rg f b
  grind
 ·rw[Zbn,List.nodup_append];refine⟨h.nd,by simp,fun x g y d e=>?_⟩;simp at d;subst d;subst e;obtain⟨f,b,e⟩:=Zl.1 g;have:=(h.has (ati cl t)).2 ⟨f,b,e⟩
  grind
 ·rw[Qbfh,Zat,decide_eq_true_eq,h.has]
  grind
end Go.Abs
end
section
namespace Go.Abs
open Go
theorem Qbbx{P:Int->Prop}:∀(ts o:List Int),(∀s∈o,P s)->(∀t∈ts,P t)->∀s∈ts.foldl ins o,P s
 |[],o,h,_=>h
 | t::ts,o,h,e=>Qbbx ts (ins o t) (fun s c=>by
   rcases Q6j.1 c with c|rfl
   all_goals grind) fun u d=>e u (by simp[d])
theorem Qbby{a:Qa}{P:Int->Prop}(c:∀s,P s->∀t∈Qmd a s,P t):∀(fuel i:Nat)(o:List Int),(∀s∈o,P s)->∀s∈bfs a fuel i o,P s
 |0,i,o,h=>h
 |fuel+1,i,o,h=>by
  unfold bfs;cases hg:o[i]? with
  |none=>exact h
  |some s=>exact Qbby c fuel (i+1) _ (Qbbx _ _ h (c s (h s (Zn hg))))
structure Like(a b:Qa)(φ:Int->Int):Prop where
 al:b.zB=a.zB
 st:0<b.zF↔0<a.zF
 zero:0<a.zF->φ 0=0
 inj:∀s∈Qd1 a,∀t∈Qd1 a,φ s=φ t->s=t
 out:∀s∈Qd1 a,outP b (φ s)=(outP a s).map fun x=>⟨φ s,x.Event,φ x.To⟩
 ma:∀s∈Qd1 a,(φ s∈b.zC↔s∈a.zC)
section
variable{F:List Int}{φ:Int->Int}(inj:∀s∈F,∀t∈F,φ s=φ t->s=t)
include inj
end
section
variable{a b:Qa}{φ:Int->Int}(ha:Right a)(hb:Right b)(h:Like a b φ)
include ha h
theorem Qbgq{s:Int}(c:s∈Qd1 a):∀t∈Qmd a s,t∈Qd1 a:=(Qhn ha).2.2 s c
theorem Qbdj:∀s∈(if 0<a.zF then [0] else ([]:List Int)),s∈Qd1 a :=by grind [Qhn]
include hb
theorem Qbdk:∀s∈Qd1 a,0<=φ s/\φ s<b.zF:=by
 have:∀s∈Qd1 a,s∈Qd1 a/\0<=φ s/\φ s<b.zF:=by
  refine Qbby (P:=fun s=>s∈Qd1 a/\0<=φ s/\φ s<b.zF) ?_ _ _ _ ?_
  ·rintro s ⟨h1,h2⟩ t ht;refine⟨Qbgq ha h h1 t ht,?_⟩;obtain⟨x,e,rfl⟩:=Zl.1 ht;have:(⟨φ s,x.Event,φ x.To⟩ : Qb)∈outP b (φ s):=by rw[h.out s h1];grind
   have:=hb.ed0 _ (Zq.1 this).1;simp only at this;omega
  ·intro s c;refine⟨Qbdj ha h s c,?_⟩;split at c
   ·rename_i d;simp at c;subst c;have:=h.st.2 d;rw[h.zero d];omega
   ·simp at c
 grind
end
theorem Q8j{a:Qa}{F:List Int}:∀(l:List Int)(k j:Nat)(s:Int),l[j]? = some s->(Qlc a F k l).filter (fun x=>x.From==((k+j:Nat):Int))=rowP a F (k+j) s
 |[],k,j,s,h=>by simp at h
 |d::l,k,j,s,h=>by
  simp only[Qlc,List.filter_append];cases j with
  |zero =>
   simp at h;subst h;have e:(rowP a F k d).filter (fun x=>x.From==((k+0:Nat):Int))=rowP a F k d:=List.filter_eq_self.2 fun x c=>by
    obtain⟨y,_,rfl⟩:=Zl.1 c;simp
   have e2:(Qlc a F (k+1) l).filter (fun x=>x.From==((k+0:Nat):Int))=[]:=Zbw.2 fun x c=>by
    have:=(Qvk x c).1;simp;omega
   rw[e,e2];simp
  |succ j =>
   simp at h;have e:(rowP a F k d).filter (fun x=>x.From==((k+(j+1):Nat):Int))=[]:=Zbw.2 fun x c=>by
    obtain⟨y,_,rfl⟩:=Zl.1 c;simp;omega
   have:=Q8j (a:=a) (F:=F) l (k+1) j s h
   grind
theorem Q8k{m:List Int}:∀(l:List Int)(k:Nat)(x:Int),x∈Qm4 m k l↔∃j s,l[j]? = some s/\s∈m/\x=((k+j:Nat):Int)
 |[],k,x=>by simp[Qm4]
 |c::l,k,x=>by
  simp only[Qm4,Zp];rw[Q8k l (k+1) x];constructor
  ·rintro (h|⟨j,s,h1,h2,h3⟩)
   ·grind
   ·exact⟨j+1,s,by simpa using h1,h2,by rw[h3];congr 1;omega⟩
  grind
theorem Q6n{l:List Int}{s:Int}(h:s∈l):l[l.idxOf s]? = some s:=by
 grind
theorem Qbjl{l:List Int}{s t:Int}(d:s∈l)(c:t∈l)(h:l.idxOf s=l.idxOf t):s=t:=by
 grind [Q6n,Option.some.inj]
theorem Q6o{a:Qa}(ha:Right a):Like a (Qfr a) (fun s=>((Qd1 a).idxOf s:Int)):=by
 obtain⟨f,c,e⟩:=Qhn ha;refine⟨rfl,?_,?_,?_,?_,?_⟩
 ·simp only[Qfr];constructor
  ·intro h;have:=f.len;omega
  grind
 ·intro h;rw[if_pos h] at c;obtain⟨r,hr⟩:=c;rw[<-hr];simp
 ·grind [Qbjl]
 ·intro s d;have:=Q8j (a:=a) (F:=Qd1 a) (Qd1 a) 0 ((Qd1 a).idxOf s) s (Q6n d);unfold outP Qfr;simp only[Zz] at this;simp only;rw[this];rfl
 ·intro s d;show _∈Qm4 a.zC 0 (Qd1 a)↔_
  grind [Q8k,Qd1,Q6n]
theorem Q6p(a:Qa)(s e:Int):Q1 a s e=match (outP a s).find? (fun x=>x.Event==e) with|some x=>x.To|none=>-1:=by
 unfold Q1 outP;grind
section
variable{a b:Qa}{φ:Int->Int}(ha:Right a)(hb:Right b)(h:Like a b φ)
include ha h
theorem Q8l{s:Int}(d:s∈Qd1 a)(e:Int):Q1 b (φ s) e=if 0<=Q1 a s e then φ (Q1 a s e) else -1:=by
 rw[Q6p b,h.out s d,List.find?_map];have hr:=Qb0 ha s e;rw[Q6p a] at hr |-;have f:((fun x:Qb=>x.Event==e) ∘ fun x:Qb=>(⟨φ s,x.Event,φ x.To⟩ : Qb))=fun x=>x.Event==e:=rfl;rw[f];cases hf:(outP a s).find? (fun x=>x.Event==e) with
 |none=>simp
 |some x =>
  rw[hf] at hr;simp only[Zad];have c:=Zbx hf;unfold outP at c;have:=(ha.ed0 x (Zq.1 c).1).2.2.1;rw[if_pos this]
omit h in
theorem Q8m{s e:Int}(d:s∈Qd1 a)(c:0<=Q1 a s e):Q1 a s e∈Qd1 a:=by
 rw[Q6p] at c |-;cases hf:(outP a s).find? (fun x=>x.Event==e) with
 |none=>rw[hf] at c;simp at c
 |some x=>exact (Qhn ha).2.2 s d x.To (Zl.2 ⟨x,Zbx hf,rfl⟩)
end
end Go.Abs
end
section
namespace Go.Abs
open Go
theorem Qbjm{α:Type}(l:List α){i t:Nat}(h:i<=t):l.take t=l.take i++(l.take t).drop i:=by
 grind [List.take_append_drop,Nat.min_eq_left]
section
variable{a:Qa}(h:Right a)
include h
theorem Qbjn{i j:Nat}(d:i<a.zD.length)(c:j<a.zD.length)(b:i<=j):a.zD[i].From<=a.zD[j].From:=by
 rcases Nat.lt_or_eq_of_le b with h1|rfl
 ·have:=Zbr.1 h.ed i j d c h1;unfold Qjc at this;omega
 ·exact Zbg _
theorem Qblx{fuel:Nat}(A:1099511627776<=fuel){i:Nat}(s:i<a.zD.length):
  ∃t:Nat,Qbp (fun o(b:Int)=>(((if (b<(a.zD.length:Int)) then ((getO a.zD b).bind fun f=>((getO a.zD (i:Int)).bind fun d=>some (f.From==d.From))) else some false)).bind fun(c:Bool)=>(if c then o (IntKind.wrap .i64 (b+1)) else some b))) fuel (i:Int)=some (t:Int)/\i<t/\t<=a.zD.length/\(∀j(n:j<a.zD.length),i<=j->j<t->a.zD[j].From=a.zD[i].From)/\∀j(n:j<a.zD.length),t<=j->a.zD[i].From<a.zD[j].From:=by
 have hb:a.zD.length<1000000000000:=h.small.1.2.2;have:=Qb1 (F:=fun o(b:Int)=>(((if (b<(a.zD.length:Int)) then ((getO a.zD b).bind fun f=>((getO a.zD (i:Int)).bind fun d=>some (f.From==d.From))) else some false)).bind fun(c:Bool)=>(if c then o (IntKind.wrap .i64 (b+1)) else some b))) (fun x:Int=>∃j:Nat,x=(j:Int)/\i<=j/\j<=a.zD.length/\∀m(p:m<a.zD.length),i<=m->m<j->a.zD[m].From=a.zD[i].From) (fun x=>a.zD.length-x.toNat) (fun x r=>∃t:Nat,r=some (t:Int)/\x<=t/\t<=a.zD.length/\(x=(i:Int)->i<t)/\(∀j(n:j<a.zD.length),i<=j->j<t->a.zD[j].From=a.zD[i].From)/\∀j(n:j<a.zD.length),t<=j->a.zD[i].From<a.zD[j].From) (fun k x w v=>?_) fuel (i:Int) ⟨i,rfl,by omega,by omega,fun m _ C B=>by omega⟩ (by omega)
 ·grind
 obtain⟨j,rfl,n,z,l⟩:=w;by_cases g:j<a.zD.length
 ·rw[if_pos (by omega),Qy g,Qy s,Za,Za,Za];cases he:(a.zD[j].From==a.zD[i].From) with
  |true =>
   rw[if_pos rfl,Qx (by omega)];obtain⟨t,C,B,J,I,H⟩:=v ((j+1:Nat):Int) ⟨j+1,rfl,by omega,by omega,fun m p q u=>by
    grind⟩ (by omega)
   grind
  |false =>
   rw[if_neg (by simp)];have y:a.zD[j].From≠a.zD[i].From:=by simpa using he
   refine⟨j,rfl,by omega,by omega,fun e=>?_,l,fun m p q=>?_⟩
   ·grind
   ·have u:=Qbjn h g p q;have E:=Qbjn h s g n;omega
 grind
def Q18(a:Qa)(i:Nat):List (List Qb):=(upto a.zF).map fun s=>(a.zD.take i).filter fun x=>x.From==s
omit h in
theorem Qyp(i:Nat):(Q18 a i).length=a.zF.toNat:=by simp[Q18,Qpy]
theorem Qbbz:Qj7 a=some ((upto a.zF).map (outP a)):=by
 unfold Qj7 Qdi;rw[Qbmy h,Za];obtain⟨fuel,F,E⟩ : ∃f,Q0=f/\1099511627776<=f:=⟨_,rfl,Ze _⟩;rw[F];have hb:a.zD.length<1000000000000:=h.small.1.2.2;have U:=h.st
 suffices X:Qbp (fun P((b,M):Int×(List (List Qb)))=>(if (b<(a.zD.length:Int)) then ((Qbp (fun O(d:Int)=>(((if (d<(a.zD.length:Int)) then ((getO a.zD d).bind fun z=>((getO a.zD b).bind fun y=>some (z.From==y.From))) else some false)).bind fun(w:Bool)=>(if w then O (IntKind.wrap .i64 (d+1)) else some d))) fuel b).bind fun(e:Int)=>((getO a.zD b).bind fun l=>((slcO a.zD b e).bind fun v=>((inO (Int.toNat a.zF) l.From).bind fun N=>((setO M l.From v).bind fun u=>P (e,u)))))) else some M)) fuel (0,List.replicate a.zF.toNat [])=some ((upto a.zF).map (outP a)) by
  rw[X,Za,Q6l (by simp[Qpy])];rfl
 have h0:List.replicate a.zF.toNat ([]:List Qb)=Q18 a 0:=by
  refine List.ext_getElem (by simp[Qyp]) fun n H h2=>?_;simp[Q18]
 refine Qb1 (fun x:Int×List (List Qb)=>∃i:Nat,x.1=(i:Int)/\i<=a.zD.length/\x.2=Q18 a i/\∀j m(C:j<a.zD.length)(hm:m<a.zD.length),j<i->i<=m->a.zD[j].From<a.zD[m].From) (fun x=>a.zD.length-x.1.toNat) (fun _ r=>r=some ((upto a.zF).map (outP a))) (fun k x o Q=>?_) fuel (0,List.replicate a.zF.toNat []) ⟨0,rfl,by omega,h0,fun j m _ _ q=>by omega⟩ (by simp only;omega);obtain⟨x,c⟩:=x;obtain⟨i,H,hi,L,hbd⟩:=o;simp only at H L;subst H L;dsimp only;by_cases g:i<a.zD.length
 ·obtain⟨t,T,A,p,S,R⟩:=Qblx h E g;have he:=h.ed0 a.zD[i] (Zr g);obtain⟨m,B⟩ : ∃m:Nat,a.zD[i].From=(m:Int):=⟨a.zD[i].From.toNat,by omega⟩;have hlr:=Qyp (a:=a) i;rw[if_pos (by omega),T,Za,Qy g,Za,Q4p (Nat.le_of_lt A) p,Za,Qbbr (by omega) (by omega),Za,B,Q6m (by omega),Za];refine Q _ ⟨t,rfl,p,?_,fun j n C hn I q2=>?_⟩ (by simp only;omega)
  ·refine List.ext_getElem (by simp[Qyp]) fun n I q2=>?_;simp only[List.length_set,Qyp] at I;have W:∀x∈(a.zD.take t).drop i,x.From=(m:Int):=fun x o=>by
    obtain⟨j,C,rfl⟩:=Zao o
    grind
   have J:∀x∈a.zD.take i,x.From<(m:Int):=fun x o=>by
    obtain⟨j,C,rfl⟩:=Zao o
    grind
   rw[List.getElem_set];have hr:(Q18 a t)[n]'q2=(a.zD.take i).filter (fun x=>x.From==(n:Int))++((a.zD.take t).drop i).filter (fun x=>x.From==(n:Int)):=by
    simp only[Q18,List.getElem_map,Q4r]
    grind [Qbjm,Nat.le_of_lt]
   rw[hr];by_cases s:m=n
   ·subst s;rw[if_pos rfl]
    grind [List.filter_eq_nil_iff,List.filter_eq_self]
   ·rw[if_neg s]
    grind [List.filter_eq_nil_iff,Q18,Q4r]
  grind
 ·rw[if_neg (by omega)];have:i=a.zD.length:=by omega
  subst this;unfold Q18;rw[Zbf];rfl
end
def Quk(cl:List Int)(r:List Qb):List Int:=r.flatMap fun x=>[hiB x.Event,loB x.Event,hiB (ati cl x.To),loB (ati cl x.To)]
theorem Qri(cl:List Int)(x:Qb)(r:List Qb):Quk cl (x::r)=hiB x.Event::loB x.Event::hiB (ati cl x.To)::loB (ati cl x.To)::Quk cl r:=rfl
theorem Q8n(cl:List Int):∀r:List Qb,(Quk cl r).length=4*r.length
 |[]=>rfl
 |x::r=>by rw[Qri];simp only[Zs,Q8n cl r];omega
theorem Qbjo{v w:Int}(c:0<=v/\v<65536)(b:0<=w/\w<65536)(d:UInt8.ofNat (hiB v).toNat=UInt8.ofNat (hiB w).toNat)(e:UInt8.ofNat (loB v).toNat=UInt8.ofNat (loB w).toNat):v=w:=by
 rw[Qbff c,Qbff b] at d;rw[Qbfg c,Qbfg b] at e;have a:=Q17 (x:=v / 256) (y:=w / 256) (by omega) (by omega) d
 grind [Q17]
def Qbn8(cl:List Int)(r:List Qb):Prop:=∀x∈r,(0<=x.Event/\x.Event<65536)/\(0<=ati cl x.To/\ati cl x.To<65536)
theorem Q8o{cl:List Int}:∀{r b : List Qb},Qbn8 cl r->Qbn8 cl b->(Quk cl r).map (fun n=>UInt8.ofNat n.toNat)=(Quk cl b).map (fun n=>UInt8.ofNat n.toNat)->r.map (fun x=>(x.Event,ati cl x.To))=b.map fun x=>(x.Event,ati cl x.To)
 |[],[],_,_,_=>rfl
 |[],y::b,_,_,h=>by rw[Qri] at h;cases h
 |x::r,[],_,_,h=>by rw[Qri] at h;cases h
 |x::r,y::b,h1,d,h=>by
  rw[Qri,Qri] at h;simp only[Zb,Zo] at h;obtain⟨m,l,k,j,a5⟩:=h;obtain⟨i,g⟩:=h1 x (by simp);obtain⟨f,e⟩:=d y (by simp);rw[Zb,Zb,Qbjo i f m l,Qbjo g e k j,Q8o (fun z c=>h1 z (by simp[c])) (fun z c=>d z (by simp[c])) a5]
theorem Qbn9{a:Qa}(h:Right a){cl:List Int}(N:cl.length=a.zF.toNat){s:Nat}(y:s<a.zF.toNat):
  Qg7 (s:Int) cl ((upto a.zF).map (outP a))=some (strB (hiB (ati cl s)::loB (ati cl s)::Quk cl (outP a s))):=by
 unfold Qg7 Qd8;have F:ati cl s=cl[s]'(by omega):=by simp_all[ati,at0,Zbt]
 have H:((upto a.zF).map (outP a)).length=a.zF.toNat:=by simp[Qpy]
 rw[Qy (by omega:s<cl.length),Za,Qya (by simp),Za,Qy (by omega:s<((upto a.zF).map (outP a)).length),Za,<-F];have e:((upto a.zF).map (outP a))[s]'(by omega)=outP a s:=by simp only[List.getElem_map,Q4r]
 rw[e];obtain⟨fuel,w,L⟩ : ∃f,Q0=f/\1099511627776<=f:=⟨_,rfl,Ze _⟩;rw[w];have g:∀x∈outP a s,x∈a.zD:=fun x u=>(Zq.1 u).1;have J:(outP a s).length<=a.zD.length:=Zax _ _;have I:=h.small.2.2.2;generalize outP a s=row at g J |-;generalize ati cl s=v
 suffices y:Qbp (fun t((b,c):(List Int)×Int)=>(if (c<(row.length:Int)) then ((getO row c).bind fun d=>((Qfx b d.Event).bind fun q=>((getO cl d.To).bind fun p=>((Qfx q p).bind fun o=>t (o,(IntKind.wrap .i64 (c+1))))))) else some b)) fuel ([]++[hiB v,loB v],0)=some (hiB v::loB v::Quk cl row) by
  rw[y];rfl
 refine Qb1 (fun x:List Int×Int=>∃(j:Nat),x.2=(j:Int)/\j<=row.length/\x.1=hiB v::loB v::Quk cl (row.take j)) (fun x=>row.length-x.2.toNat) (fun _ r=>r=some (hiB v::loB v::Quk cl row)) (fun k x u E=>?_) fuel ([]++[hiB v,loB v],0) ⟨0,rfl,by omega,rfl⟩ (by simp only;omega);obtain⟨x,i⟩:=x;obtain⟨j,C,O,B⟩:=u;simp only at C B;subst C B;dsimp only;by_cases n:j<row.length
 ·have P:=h.ed0 row[j] (g _ (Zr n));obtain⟨m,l⟩ : ∃m:Nat,row[j].To=(m:Int):=⟨row[j].To.toNat,by omega⟩;have A:=Q8n cl (row.take j);have z:(row.take j).length<=j:=by simp;omega
  have M:cl[m]'(by omega)=ati cl row[j].To:=by rw[l];simp[ati,at0,Zbt,show m<cl.length from by omega]
  rw[if_pos (by omega),Qy n,Za,Qya (by simp;omega),Za,l,Qy (by omega:m<cl.length),Za,Qya (by simp;omega),Za,Qx (by omega)];refine E _ ⟨j+1,rfl,by omega,?_⟩ (by simp only;omega)
  grind [List.take_succ_eq_append_getElem,Quk]
 grind
end Go.Abs
end
section
namespace Go.Abs
open Go
def edC(cl:List Int)(x:Qb):Int×Int:=(x.Event,ati cl x.To)
def Cons(a:Qa)(cl:List Int):Prop:=∀s t:Nat,s<a.zF.toNat->t<a.zF.toNat->ati cl (s:Int)=ati cl (t:Int)->(outP a s).map (edC cl)=(outP a t).map (edC cl)
theorem Qbjp{σ a : Nat->ByteArray}{N:Nat}{c b : List (ByteArray×Int)}{l p : List Int}(h:RefI σ N N c l)(f : RefI a N N b p)(B:∀j d,j<N->d<N->a j=a d->σ j=σ d)(hc:b.length=c.length){x y:Nat}(o:x<N)(q:y<N)(C:ati l (x:Int)=ati l (y:Int)):ati p (x:Int)=ati p (y:Int):=by
 rw[h.ati o,h.ati q] at C;rw[f.ati o,f.ati q];refine Zca fun u=>?_;have t:=h.rng x o;obtain⟨g,w⟩ : ∃g:Nat,getM c (σ x) 0=(g:Int):=⟨(getM c (σ x) 0).toNat,by omega⟩;have key:∀j d,j<N->d<N->getM b (a j) 0=getM b (a d) 0->getM c (σ j) 0=getM c (σ d) 0:=fun j d n i e=>by rw[B j d n i (f.inj j d n i e)]
 have:=Qbbu (k:=c.length+1) (k':=b.length) (fun m v=>(m<c.length/\m≠g/\∃j,j<N/\getM c (σ j) 0=(m:Int)/\getM b (a j) 0=(v:Int))\/(m=g/\m<c.length/\getM b (a x) 0=(v:Int))\/(m=c.length/\getM b (a y) 0=(v:Int))) (fun m A=>?_) (fun m E v A z s r=>?_)
 ·omega
 ·by_cases s:m=c.length
  ·have hr:=f.rng y q;exact⟨(getM b (a y) 0).toNat,by omega,.inr (.inr ⟨s,by omega⟩)⟩
  ·by_cases r:m=g
   ·have hr:=f.rng x o;exact⟨(getM b (a x) 0).toNat,by omega,.inr (.inl ⟨r,by omega,by omega⟩)⟩
   ·obtain⟨j,n,e⟩:=h.sur m (by omega);have hr:=f.rng j n;exact⟨(getM b (a j) 0).toNat,by omega,.inl ⟨by omega,r,j,n,e,by omega⟩⟩
 grind
theorem Qbb0{a:Qa}(h:Right a):∃cl,Qki a=some cl/\cl.length=a.zF.toNat/\(∀j:Nat,j<a.zF.toNat->0<=ati cl j/\ati cl j<a.zF.toNat)/\Cons a cl:=by
 unfold Qki Qe7;obtain⟨b,hb,hbl⟩:=Qbfe h;rw[hb,Za,Qbbz h,Za];have hst:=h.st;have T:((a.zF.toNat:Nat):Int)=a.zF:=by omega
 have F:a.zF.toNat<=4096:=by omega
 have h1:∀j:Nat,j<a.zF.toNat->(fun P=>Qg6 P b) (j:Int)=some (if b.getD j false then (⟨#[109]⟩ : ByteArray) else ⟨#[]⟩):=fun j i=>by
  simp only;unfold Qg6 Qd7
  grind [Qy]
 obtain⟨X,l0,W,r0⟩:=Qbbt (sig:=fun P=>Qg6 P b) (σ:=fun j=>if b.getD j false then (⟨#[109]⟩ : ByteArray) else ⟨#[]⟩) F h1;rw[T] at W;rw[W,Za];dsimp only;obtain⟨fuel,M,hge⟩ : ∃f,Q0=f/\1099511627776<=f:=⟨_,rfl,Ze _⟩;rw[M];refine Qb1 (fun x:Int×List Int=>∃(σ:Nat->ByteArray)(c:List (ByteArray×Int)),x.1=(c.length:Int)/\RefI σ a.zF.toNat a.zF.toNat c x.2) (fun x=>a.zF.toNat-x.1.toNat) (fun _ r=>∃cl,r=some cl/\cl.length=a.zF.toNat/\(∀j:Nat,j<a.zF.toNat->0<=ati cl j/\ati cl j<a.zF.toNat)/\Cons a cl) (fun k x A ih=>?_) fuel ((X.length:Int),l0) ⟨_,X,rfl,r0⟩ (by simp only;omega);obtain⟨n,cl⟩:=x;obtain⟨σ,c,U,m⟩:=A;simp only at U m;subst U;dsimp only;have N:=m.len;have d:∀j:Nat,j<a.zF.toNat->0<=ati cl j/\ati cl j<65536:=fun j i=>by
  have:=m.rng j i;have:=m.cnt;rw[m.ati i];omega
 have p:∀j:Nat,Qbn8 cl (outP a j):=fun j x A=>by
  have B:=h.ed0 x (Zq.1 A).1;have ha:=h.al0 x.Event B.2.2.2.2;have:=d x.To.toNat (by omega)
  grind
 obtain⟨H,I,e2,l⟩:=Qbbt (sig:=fun Q=>Qg7 Q cl ((upto a.zF).map (outP a))) (σ:=fun j=>strB (hiB (ati cl j)::loB (ati cl j)::Quk cl (outP a j))) F (fun j i=>Qbn9 h N i);rw[T] at e2;rw[e2,Za];have u:∀j o : Nat,j<a.zF.toNat->o<a.zF.toNat->strB (hiB (ati cl j)::loB (ati cl j)::Quk cl (outP a j))=strB (hiB (ati cl o)::loB (ati cl o)::Quk cl (outP a o))->σ j=σ o:=fun j o i w e=>by
  have:=Qbn7 (d j i) (d o w) e;rw[m.ati i,m.ati w] at this;exact m.inj j o i w this
 have hle:c.length<=H.length:=m.finer l u;dsimp only;by_cases B:((H.length:Int)==(c.length:Int))=true
 ·rw[if_pos B];have O:H.length=c.length:=by grind
  refine⟨I,rfl,l.len,fun j i=>?_,fun s t S R e=>?_⟩
  ·have:=l.rng j i;have:=l.cnt;rw[l.ati i];omega
  ·rw[l.ati S,l.ati R] at e;have e3:=l.inj s t S R e;have e4:=congrArg (fun b:ByteArray=>b.data.toList) e3;simp only[Qbbw,Zb,Zo] at e4;have e5:=Q8o (p s) (p t) e4.2.2;have g:∀r v : List Qb,(∀x∈r,0<=x.To/\x.To<a.zF)->(∀x∈v,0<=x.To/\x.To<a.zF)->r.map (fun x=>(x.Event,ati cl x.To))=v.map (fun x=>(x.Event,ati cl x.To))->r.map (edC I)=v.map (edC I):=by
    intro r
    induction r with
    |nil=>simp_all
    |cons x r J=>intro v hr E q;cases v with
     |nil=>cases q
     |cons y v =>
      simp only[Zb,Zo,Zf] at q;obtain⟨⟨q1,q2⟩,q3⟩:=q;have A:=hr x (by simp);have hy:=E y (by simp);have:=Qbjp m l u O (x:=x.To.toNat) (y:=y.To.toNat) (by omega) (by omega) (by rw[show ((x.To.toNat:Nat):Int)=x.To from by omega,show ((y.To.toNat:Nat):Int)=y.To from by omega];exact q2);rw[show ((x.To.toNat:Nat):Int)=x.To from by omega,show ((y.To.toNat:Nat):Int)=y.To from by omega] at this;rw[Zb,Zb,J v (fun z L=>hr z (by simp[L])) (fun z L=>E z (by simp[L])) q3]
      grind [edC]
   have C:∀(j:Nat),∀x∈outP a j,0<=x.To/\x.To<a.zF:=fun j x A=>by
    have B:=h.ed0 x (Zq.1 A).1
    grind
   exact g _ _ (C s) (C t) e5
 ·rw[if_neg B];have hne:H.length≠c.length:=fun e=>B (by simp[e]);have:=l.cnt;exact ih _ ⟨_,H,rfl,l⟩ (by simp only;omega)
end Go.Abs
end
section
namespace Go.Abs
open Go
theorem Qboa(x y:Int):Qk8 x y=some (decide (x<y)):=by
 unfold Qk8 Qgw Qrb Qff;simp
theorem Qbly(x:Int):Qjs x=some false:=by
 unfold Qjs Qdz;simp
theorem Qbjq{l:List Int}(h:l.Pairwise (· < ·))(v:Int):l.Pairwise fun a b=>decide (b<v)=true->decide (a<v)=true :=
 h.imp fun h=>by simp;omega
theorem Qbb1{l:List Int}{v:Int}(y:l.Pairwise (· < ·))(z:l.length<big):∃n,Qc6 l v=some (n,decide (v∈l)):=by
 have hc:=fun n h=>Q3f (p:=fun x:Int=>decide (x<v)) (Qbjq y v) n h;have g:(l.filter fun x=>decide (x<v)).length<=l.length:=Zax _ _;generalize (l.filter fun x=>decide (x<v)).length=c at hc g;have hb:l.length<1000000000000:=z;unfold Qc6 Q7;obtain⟨fuel,o,B⟩ : ∃f,Q0=f/\1099511627776<=f:=⟨_,rfl,Ze _⟩;rw[o];have d:=Qb1 (F:=fun(q:Int×Int->Option Int)((i3,j4):Int×Int)=>(if (i3<j4) then ((getO l (IntKind.wrap .i64 (Int.fdiv (IntKind.wrap .u64 (IntKind.wrap .i64 (i3+j4))) (2 ^ (min (Int.toNat 1) (IntKind.bits .u64)))))).bind fun u=>((Qk8 u v).bind fun m=>(if m then q ((IntKind.wrap .i64 ((IntKind.wrap .i64 (Int.fdiv (IntKind.wrap .u64 (IntKind.wrap .i64 (i3+j4))) (2 ^ (min (Int.toNat 1) (IntKind.bits .u64)))))+1)),j4) else q (i3,(IntKind.wrap .i64 (Int.fdiv (IntKind.wrap .u64 (IntKind.wrap .i64 (i3+j4))) (2 ^ (min (Int.toNat 1) (IntKind.bits .u64))))))))) else some i3))
  (fun x=>∃i j:Nat,x=((i:Int),(j:Int))/\i<=c/\c<=j/\j<=l.length) (fun x=>(x.2-x.1).toNat) (fun _ r=>r=some (c:Int)) (by
   rintro k _ ⟨i,j,rfl,h1,h2,h3⟩ ih;dsimp only;by_cases A:i<j
   ·rw[if_pos (by omega),Qbmv (by omega) (by omega)];have t:(i+j) / 2<l.length:=by omega
    rw[Qy t];simp only[Za];rw[Qboa];simp only[Za];have e:=hc ((i+j) / 2) t;by_cases b:l[(i+j) / 2]<v
    ·rw[if_pos (by simpa using b),Qx (by omega)];have:(i+j) / 2<c:=e.1 (by simpa using b);exact ih _ ⟨_,_,rfl,by omega,h2,h3⟩ (by simp only;omega)
    ·rw[if_neg (by simpa using b)];have:¬(i+j) / 2<c:=fun h=>b (by simpa using e.2 h);exact ih _ ⟨_,_,rfl,h1,by omega,by omega⟩ (by simp only;omega)
   grind) fuel (0,(l.length:Int)) ⟨0,l.length,rfl,by omega,g,Ze _⟩ (by simp only;omega)
 rw[d];simp only[Za];have s:v∈l↔∃h:c<l.length,l[c]=v:=by
  constructor
  ·intro w;obtain⟨j,C,rfl⟩:=Zao w
   grind [Nat.lt_or_ge,List.pairwise_iff_getElem]
  grind
 by_cases b:c<l.length
 ·rw[if_pos (by omega),Qy b];simp only[Za];by_cases E:l[c]=v
  all_goals simp_all[if_pos,decide_eq_true,if_neg,Qbly,decide_eq_false]
 simp_all[if_neg,decide_eq_false]
theorem Qvm{l:List Int}(b:l.length<=lim):Qbd l=some l:=by
 unfold Qbd Qk;rw[Qbm (by simpa using b)];cases l<;>simp[nilO]
structure Num(a:Qa)(o num:List Int):Prop where
 len:num.length=a.zF.toNat
 at1:∀s:Nat,s<a.zF.toNat->num[s]? = some (if (s:Int)∈o then (o.idxOf (s:Int):Int) else -1)
theorem Q6q{o F:List Int}(h:o <+: F){t:Int}(b:t∈o):F.idxOf t=o.idxOf t:=by
 obtain⟨r,rfl⟩:=h
 grind
theorem Num.get{a:Qa}{o b:List Int}(h:Num a o b){t:Int}(c:0<=t/\t<a.zF):getO b t=some (if t∈o then (o.idxOf t:Int) else -1):=by
 rw[Quj];refine⟨c.1,?_⟩;have:=h.at1 t.toNat (by omega)
 grind
theorem Num.set{a:Qa}{o c:List Int}(h:Num a o c){t:Int}(e:0<=t/\t<a.zF)(g:t∉o):∃b,setO c t (o.length:Int)=some b/\Num a (o++[t]) b:=by
 refine⟨c.set t.toNat (o.length:Int),by unfold setO;rw[if_pos ⟨e.1,by rw[h.len];omega⟩],by rw[List.length_set];exact h.len,fun s f=>?_⟩;rw[List.getElem?_set];by_cases d:t.toNat=s
 ·subst d;rw[if_pos rfl,if_pos (by rw[h.len];omega),show ((t.toNat:Nat):Int)=t from by omega,if_pos (by simp),List.idxOf_append,if_neg g];simp
 ·rw[if_neg d,h.at1 s f]
  grind
section
variable{a:Qa}(h:Right a)
include h
theorem Qbjr(fuel:Nat)(W:1099511627776<=fuel){l:List Qb}(hl:l.length<=200000)(I:∀x∈l,0<=x.To/\x.To<a.zF){i:Nat}{ms o:List Int}{es:List Qb}{d:List Int}(ho:Fnd a o)(T:Num a o d)(hes:es.length<=200000):
  ∃c,Num a ((l.map (·.To)).foldl ins o) c/\Qbp (fun(u:List Int×Int×List Qb×List Int->Option (List Int×List Int×List Qb×List Int))((order43,x44,r45,c46):(List Int)×Int×(List Qb)×(List Int))=>(if (x44<(l.length:Int)) then ((getO l x44).bind fun b=>((((inO (Int.toNat a.zF) b.To).bind fun H=>((getO c46 b.To).bind fun s=>(if (s<0) then ((inO (Int.toNat a.zF) b.To).bind fun E=>((setO c46 b.To (order43.length:Int)).bind fun q=>((appO order43 [b.To]).bind fun p=>some (p,q)))) else some (order43,c46))))).bind fun((e,f):(List Int)×(List Int))=>((inO (Int.toNat a.zF) b.To).bind fun C=>((getO f b.To).bind fun n=>((appO r45 [(Qb.mk (i:Int) b.Event n)]).bind fun m=>u (e,(IntKind.wrap .i64 (x44+1)),m,f)))))) else some (order43,ms,r45,c46))) fuel (o,0,es,d)=some ((l.map (·.To)).foldl ins o,ms,es++l.map (fun x=>⟨(i:Int),x.Event,(((l.map (·.To)).foldl ins o).idxOf x.To:Int)⟩),c):=by
 have S:=h.st;have key:=Qb1 (F:=(fun(u:List Int×Int×List Qb×List Int->Option (List Int×List Int×List Qb×List Int))((order43,x44,r45,c46):(List Int)×Int×(List Qb)×(List Int))=>(if (x44<(l.length:Int)) then ((getO l x44).bind fun b=>((((inO (Int.toNat a.zF) b.To).bind fun H=>((getO c46 b.To).bind fun s=>(if (s<0) then ((inO (Int.toNat a.zF) b.To).bind fun E=>((setO c46 b.To (order43.length:Int)).bind fun q=>((appO order43 [b.To]).bind fun p=>some (p,q)))) else some (order43,c46))))).bind fun((e,f):(List Int)×(List Int))=>((inO (Int.toNat a.zF) b.To).bind fun C=>((getO f b.To).bind fun n=>((appO r45 [(Qb.mk (i:Int) b.Event n)]).bind fun m=>u (e,(IntKind.wrap .i64 (x44+1)),m,f)))))) else some (order43,ms,r45,c46))))
  (fun x=>∃(j:Nat)(o:List Int)(es:List Qb)(d:List Int),x=(o,(j:Int),es,d)/\j<=l.length/\Fnd a o/\Num a o d/\es.length<=200000+j) (fun x=>l.length-x.2.1.toNat)
  (fun x r=>∀(j:Nat)(o:List Int)(es:List Qb)(d:List Int),x=(o,(j:Int),es,d)->∃c,Num a (((l.drop j).map (·.To)).foldl ins o) c/\r=some (((l.drop j).map (·.To)).foldl ins o,ms,es++(l.drop j).map (fun x=>⟨(i:Int),x.Event,((((l.drop j).map (·.To)).foldl ins o).idxOf x.To:Int)⟩),c)) (by
   rintro k _ ⟨j,o,es,d,rfl,hj,hf,hnm,hel⟩ ih j' o' es' c he;obtain⟨rfl,L⟩:=Prod.mk.inj he;obtain⟨U,J⟩:=Prod.mk.inj L;obtain⟨rfl,rfl⟩:=Prod.mk.inj J;obtain rfl:j=j':=by omega
   have X:=hf.len;dsimp only;by_cases v:j<l.length
   ·have A:=I _ (Zr v);rw[if_pos (by omega),Qy v];simp only[Za];rw[show inO (Int.toNat a.zF) l[j].To=some () from by unfold inO;rw[if_pos (by omega)]];simp only[Za];rw[hnm.get A];simp only[Za];have w:=hf.ins A;have B:l[j].To∈ins o l[j].To:=Q6j.2 (.inr rfl);have g:ins o l[j].To <+: ((l.drop (j+1)).map (·.To)).foldl ins (ins o l[j].To):=
     (Qx6 w fun t R=>by grind).2.1
    rw[Zai v];simp only[Zb,Zbd];by_cases y:l[j].To∈o
    ·have M:ins o l[j].To=o:=by unfold ins;rw[if_pos y]
     rw[if_pos y,if_neg (by omega)];simp only[Za];rw[hnm.get A,if_pos y];simp only[Za];rw[Qbm (by grind [List.length_cons,List.length_nil,lim])];simp only[Za];rw[Qx (by omega)];rw[M] at g |-;obtain⟨c,Q,P⟩:=ih _ ⟨j+1,o,es++[⟨(i:Int),l[j].Event,(o.idxOf l[j].To:Int)⟩],d,rfl,by omega,hf,hnm,by grind⟩ (by simp only;omega) (j+1) _ _ _ rfl
     grind [Q6q,List.append_assoc]
    ·have M:ins o l[j].To=o++[l[j].To]:=by unfold ins;rw[if_neg y]
     rw[if_neg y,if_pos (by omega)];obtain⟨z,O,N⟩:=hnm.set A y;rw[O];simp only[Za];rw[Qbm (by grind [List.length_cons,List.length_nil,lim])];simp only[Za];rw[N.get A,if_pos (by simp)];simp only[Za];rw[Qbm (by grind [List.length_cons,List.length_nil,lim])];simp only[Za];rw[Qx (by omega)];rw[M] at g w B |-;obtain⟨c,Q,P⟩:=ih _ ⟨j+1,o++[l[j].To],es++[⟨(i:Int),l[j].Event,((o++[l[j].To]).idxOf l[j].To:Int)⟩],z,rfl,by omega,w,N,by grind⟩ (by simp only;omega) (j+1) _ _ _ rfl
     grind [Q6q,List.append_assoc]
   grind) fuel (o,0,es,d) ⟨0,o,es,d,rfl,Zw _,ho,T,by omega⟩ (by simp only;omega) 0 o es d rfl
 grind
theorem Qbgr(fuel:Nat)(hfu:1099511627776<=fuel){f:List Int}(h0:0<a.zF)(hn:Num a [0] f):
  ∃m,Qbp (fun(T:List Int×Int×List Int×List Int×List Qb×List Int×List Qb×List Int->Option (List Int×List Int×List Int×List Qb×List Int×List Qb×List Int))((order20,i21,c22,c23,c24,r25,r26,c27):(List Int)×Int×(List Int)×(List Int)×(List Qb)×(List Int)×(List Qb)×(List Int))=>(if (i21<(order20.length:Int)) then ((((((getO order20 i21).bind fun O=>((Qc6 a.zC O).bind fun(r33,S)=>(if S then ((appO r25 [i21]).bind fun N=>some N) else some r25)))).bind fun(R:List Int)=>((getO order20 i21).bind fun M=>((Qfg a M).bind fun C=>Qbp (fun H((b,g,p,e):(List Int)×Int×(List Qb)×(List Int))=>(if (g<(C.length:Int)) then ((getO C g).bind fun c=>((((inO (Int.toNat a.zF) c.To).bind fun u51=>((getO e c.To).bind fun B=>(if (B<0) then ((inO (Int.toNat a.zF) c.To).bind fun u56=>((setO e c.To (b.length:Int)).bind fun A=>((appO b [c.To]).bind fun z=>some (z,A)))) else some (b,e))))).bind fun((d,q):(List Int)×(List Int))=>((inO (Int.toNat a.zF) c.To).bind fun u64=>((getO q c.To).bind fun y=>((appO p [(Qb.mk i21 c.Event y)]).bind fun w=>H (d,(IntKind.wrap .i64 (g+1)),w,q)))))) else some (b,R,p,e))) fuel (order20,0,r26,c27))))).bind fun((l,Q,P,c73):(List Int)×(List Int)×(List Qb)×(List Int))=>T (l,(IntKind.wrap .i64 (i21+1)),c22,c23,c24,Q,P,c73)) else some (order20,c22,c23,c24,r25,r26,c27))) fuel ([0],0,[],[],[],[],[],f)=some (Qd1 a,[],[],[],Qm4 a.zC 0 (Qd1 a),Qlc a (Qd1 a) 0 (Qd1 a),m):=by
 have hst:=h.st;have hs:=h.small.1;have hsb:=h.small.2;have key:=Qb1 (F:=(fun(T:List Int×Int×List Int×List Int×List Qb×List Int×List Qb×List Int->Option (List Int×List Int×List Int×List Qb×List Int×List Qb×List Int))((order20,i21,c22,c23,c24,r25,r26,c27):(List Int)×Int×(List Int)×(List Int)×(List Qb)×(List Int)×(List Qb)×(List Int))=>(if (i21<(order20.length:Int)) then ((((((getO order20 i21).bind fun O=>((Qc6 a.zC O).bind fun(r33,S)=>(if S then ((appO r25 [i21]).bind fun N=>some N) else some r25)))).bind fun(R:List Int)=>((getO order20 i21).bind fun M=>((Qfg a M).bind fun C=>Qbp (fun H((b,g,p,e):(List Int)×Int×(List Qb)×(List Int))=>(if (g<(C.length:Int)) then ((getO C g).bind fun c=>((((inO (Int.toNat a.zF) c.To).bind fun u51=>((getO e c.To).bind fun B=>(if (B<0) then ((inO (Int.toNat a.zF) c.To).bind fun u56=>((setO e c.To (b.length:Int)).bind fun A=>((appO b [c.To]).bind fun z=>some (z,A)))) else some (b,e))))).bind fun((d,q):(List Int)×(List Int))=>((inO (Int.toNat a.zF) c.To).bind fun u64=>((getO q c.To).bind fun y=>((appO p [(Qb.mk i21 c.Event y)]).bind fun w=>H (d,(IntKind.wrap .i64 (g+1)),w,q)))))) else some (b,R,p,e))) fuel (order20,0,r26,c27))))).bind fun((l,Q,P,c73):(List Int)×(List Int)×(List Qb)×(List Int))=>T (l,(IntKind.wrap .i64 (i21+1)),c22,c23,c24,Q,P,c73)) else some (order20,c22,c23,c24,r25,r26,c27))))
  (fun x=>∃(i:Nat)(o ms:List Int)(es:List Qb)(f:List Int),x=(o,(i:Int),[],[],[],ms,es,f)/\i<=o.length/\Fnd a o/\Num a o f/\ms.length<=i/\es.length<=32*i/\(∀j s,j<i->o[j]? = some s->∀t∈Qmd a s,t∈o)) (fun x=>a.zF.toNat+1-x.2.1.toNat)
  (fun x r=>∀(i:Nat)(o ms:List Int)(es:List Qb)(f:List Int),x=(o,(i:Int),[],[],[],ms,es,f)->∃m,r=some (bfs a (a.zF.toNat+1-i) i o,[],[],[],ms++Qm4 a.zC i ((bfs a (a.zF.toNat+1-i) i o).drop i),es++Qlc a (bfs a (a.zF.toNat+1-i) i o) i ((bfs a (a.zF.toNat+1-i) i o).drop i),m)) (by
   rintro k _ ⟨i,o,ms,es,f,rfl,hi,hf,hnm,hml,hel,hcl⟩ ih i' o' ms' es' m he;obtain⟨rfl,he2⟩:=Prod.mk.inj he;obtain⟨hii,he3⟩:=Prod.mk.inj he2;obtain⟨_,he4⟩:=Prod.mk.inj he3;obtain⟨_,he5⟩:=Prod.mk.inj he4;obtain⟨_,he6⟩:=Prod.mk.inj he5;obtain⟨rfl,he7⟩:=Prod.mk.inj he6;obtain⟨rfl,rfl⟩:=Prod.mk.inj he7;obtain rfl:i=i':=by omega
   have hfl:=hf.len;dsimp only;by_cases I:i<o.length
   ·have hrg:=hf.rg _ (Zr I);rw[if_pos (by omega),Qy I];simp only[Za];obtain⟨n,hsr⟩:=Qbb1 (v:=o[i]) h.ma hs.2.1;rw[hsr];simp only[Za];rw[Qbmx h hs (by omega) (by omega)];have hto:∀x∈outP a o[i],0<=x.To/\x.To<a.zF:=fun x hx=>by
     unfold outP at hx;have:=h.ed0 x (Zq.1 hx).1;omega
    have hol:(outP a o[i]).length<=200000:=Zac (Zax _ _) (by omega);have hrow:=Qbfc h (F:=o) (i:=i) (s:=o[i]);have hrl:(outP a o[i]).length<=32:=by simpa[rowP] using hrow
    obtain⟨q1,q2,q3,_⟩:=Qx6 hf (Q0u h o[i]);have hle:=q2.length_le;have L : ∀j s,j<i+1->((Qmd a o[i]).foldl ins o)[j]? = some s->∀t∈Qmd a s,t∈(Qmd a o[i]).foldl ins o:=by
     intro j s hj hs' t ht;by_cases hji:j<i
     ·grind [Qg2,List.getElem?_eq_getElem]
     ·obtain rfl:j=i:=by omega
      grind [Qg2,List.getElem?_eq_getElem]
    have hF:=Q9w h (a.zF.toNat+1-(i+1)) (i+1) ((Qmd a o[i]).foldl ins o) q1 (by omega) (by omega) L;have hget:(bfs a (a.zF.toNat+1-(i+1)) (i+1) ((Qmd a o[i]).foldl ins o))[i]? = some o[i]:=Qg2 (q2.trans hF.2.1) (Zj I);rw[show a.zF.toNat+1-i=(a.zF.toNat+1-(i+1))+1 from by omega,Qbfb I];have X:(bfs a (a.zF.toNat+1-(i+1)) (i+1) ((Qmd a o[i]).foldl ins o)).drop i=o[i]::(bfs a (a.zF.toNat+1-(i+1)) (i+1) ((Qmd a o[i]).foldl ins o)).drop (i+1):=by
     grind [List.getElem?_eq_some_iff,List.drop_eq_getElem_cons]
    rw[X];simp only[Qm4,Qlc];have hidx:∀x∈outP a o[i],(bfs a (a.zF.toNat+1-(i+1)) (i+1) ((Qmd a o[i]).foldl ins o)).idxOf x.To=((Qmd a o[i]).foldl ins o).idxOf x.To:=fun x hx =>
     Q6q hF.2.1 (q3 x.To (Zl.2 ⟨x,hx,rfl⟩))
    have W:rowP a (bfs a (a.zF.toNat+1-(i+1)) (i+1) ((Qmd a o[i]).foldl ins o)) i o[i]=(outP a o[i]).map fun x=>⟨(i:Int),x.Event,(((Qmd a o[i]).foldl ins o).idxOf x.To:Int)⟩ :=
     List.map_congr_left fun x hx=>by rw[hidx x hx]
    rw[W];generalize hFe:bfs a (a.zF.toNat+1-(i+1)) (i+1) ((Qmd a o[i]).foldl ins o)=F at *
    have U:∀u:List Int,u.length<=i+1->∃m,(Option.bind (Qbp (fun(H:List Int×Int×List Qb×List Int->Option (List Int×List Int×List Qb×List Int))((b,g,p,e):(List Int)×Int×(List Qb)×(List Int))=>(if (g<((outP a o[i]).length:Int)) then ((getO (outP a o[i]) g).bind fun c=>((((inO (Int.toNat a.zF) c.To).bind fun u51=>((getO e c.To).bind fun B=>(if (B<0) then ((inO (Int.toNat a.zF) c.To).bind fun u56=>((setO e c.To (b.length:Int)).bind fun A=>((appO b [c.To]).bind fun z=>some (z,A)))) else some (b,e))))).bind fun((d,q):(List Int)×(List Int))=>((inO (Int.toNat a.zF) c.To).bind fun u64=>((getO q c.To).bind fun y=>((appO p [(Qb.mk (i:Int) c.Event y)]).bind fun w=>H (d,(IntKind.wrap .i64 (g+1)),w,q)))))) else some (b,u,p,e))) fuel (o,0,es,f)) fun x=>k (x.1,IntKind.wrap .i64 ((i:Int)+1),[],[],[],x.2.1,x.2.2.1,x.2.2.2))=some (F,[],[],[],u++Qm4 a.zC (i+1) (F.drop (i+1)),(es++(outP a o[i]).map (fun x=>⟨(i:Int),x.Event,(((Qmd a o[i]).foldl ins o).idxOf x.To:Int)⟩))++Qlc a F (i+1) (F.drop (i+1)),m):=by
     intro u hms1;obtain⟨E,n1,n2⟩:=Qbjr h fuel hfu hol hto (ms:=u) (i:=i) hf hnm (es:=es) (by omega);rw[n2];simp only[Za];rw[Qx (by omega)];have hel2:(es++(outP a o[i]).map (fun x=>(⟨(i:Int),x.Event,(((Qmd a o[i]).foldl ins o).idxOf x.To:Int)⟩ : Qb))).length<=32*(i+1):=by grind
     have J:=ih _ ⟨i+1,(Qmd a o[i]).foldl ins o,u,_,E,rfl,by omega,q1,n1,hms1,hel2,L⟩ (by simp only;omega) (i+1) _ u _ E rfl;rw[hFe] at J;exact J
    by_cases hm:o[i]∈a.zC
    ·simp only[hm,decide_true,if_true];rw[Qbm (by grind [List.length_cons,List.length_nil,lim])];simp only[Za];obtain⟨E,n1⟩:=U (ms++[(i:Int)]) (by grind)
     grind
    ·simp only[hm,decide_false,Zg,if_false,Za]
     grind
   ·rw[if_neg (by omega)];obtain rfl:i=o.length:=by omega
    simp[Qbjh,Qm4,Qlc]) fuel ([0],0,[],[],[],[],[],f) ⟨0,[0],[],[],f,rfl,by simp,⟨by simp,fun s hs=>by simp at hs;omega⟩,hn,by simp,by simp,fun j s hj=>by omega⟩ (by simp only;omega) 0 [0] [] [] f rfl
 grind [Qd1]
theorem Q7d:Qhu a=some (Qfr a):=by
 have p:=h.st;have q:=h.small.2;unfold Qhu Qdm;obtain⟨fuel,g,e⟩ : ∃f,Q0=f/\1099511627776<=f:=⟨_,rfl,Ze _⟩;rw[g,Qvm (by unfold lim;omega),Za];by_cases i:a.zF=0
 ·rw[if_pos (by simpa using i)];unfold Qfr Qd1;rw[if_neg (by omega)];rw[i];rfl
 ·rw[if_neg (by simpa using i),show mkO a.zF (0:Int)=some (List.replicate a.zF.toNat 0) from by unfold mkO;rw[if_pos ⟨by omega,by unfold lim;omega⟩],Za];have b:=Qhx (len:=a.zF.toNat) (F:=fun(o:Int×List Int->Option (List Int))((x7,c8):Int×(List Int))=>(if (x7<((Int.toNat a.zF):Int)) then ((inO (Int.toNat a.zF) x7).bind fun m=>((setO c8 x7 (-1)).bind fun d=>o ((IntKind.wrap .i64 (x7+1)),d))) else some c8))
   (fun n(c:List Int)=>((n:Int),c)) (fun n c=>c.length=a.zF.toNat/\c.take n=List.replicate n (-1)) (fun _ _=>some (List.replicate a.zF.toNat (-1))) (by
    rintro k n c l ⟨k1,k2⟩ ih;dsimp only;rw[if_pos (by omega),show inO (Int.toNat a.zF) (n:Int)=some () from by unfold inO;rw[if_pos (by omega)],Za,show setO c (n:Int) (-1)=some (c.set n (-1)) from by simp_all[setO,if_pos],Za,Qx (by omega)];refine ih _ ⟨by grind,?_⟩;rw[List.take_add_one,List.take_set_of_le (Ze _),k2,List.getElem?_set_self (by omega)];rw[List.replicate_succ'];rfl) (by
    grind) fuel 0 (List.replicate a.zF.toNat 0) (Zw _) (by omega) ⟨by simp,by simp⟩
  refine (congrArg (fun w=>Option.bind w _) b).trans ?_;rw[Za,show inO (Int.toNat a.zF) 0=some () from by unfold inO;rw[if_pos (by omega)],Za];have l:Num a [0] ((List.replicate a.zF.toNat (-1)).set 0 0):=⟨by simp,fun s t=>by
   grind⟩
  rw[show setO (List.replicate a.zF.toNat (-1:Int)) 0 0=some ((List.replicate a.zF.toNat (-1)).set 0 0) from by unfold setO;grind,Za];obtain⟨j,r⟩:=Qbgr h fuel e (by omega) l;rw[r]
  rfl
end
end Go.Abs
end
section
namespace Go.Abs
open Go
theorem Qn1(a b:ByteArray):(a==b)=decide (a=b):=by
 cases a;cases b;rw[Bool.eq_iff_iff];simp only[decide_eq_true_eq,ByteArray.mk.injEq];exact beq_iff_eq (α:=Array UInt8)
theorem Qbdl{i j:Nat}(b:i<10)(a:j<10)(h:UInt8.ofNat (48+i)=UInt8.ofNat (48+j)):i=j:=by
 have:=congrArg UInt8.toNat h
 grind [UInt8.toNat_ofNat']
theorem Qbmz{i:Nat}(a:i<10)(h:UInt8.ofNat (48+i)=32):False:=by
 have:=congrArg UInt8.toNat h;simp only[UInt8.toNat_ofNat'] at this
 grind
theorem Qbob{x y:Nat}(d:x<100)(c:y<100){s t:List UInt8}(h:Lib.decDigits x++32::s=Lib.decDigits y++32::t):x=y/\s=t:=by
 by_cases b:x<10<;>by_cases a:y<10
 ·grind [Go.Lib.decDigits_one,List.cons.injEq,Qbdl]
 ·rw[Lib.decDigits_one b,Lib.decDigits_two a c] at h;simp only[Zaq,Zbh,Zo] at h;exact (Qbmz (by omega) h.2.1.symm).elim
 ·rw[Lib.decDigits_two b d,Lib.decDigits_one a] at h;simp only[Zaq,Zbh,Zo] at h;exact (Qbmz (by omega) h.2.1).elim
 ·rw[Lib.decDigits_two b d,Lib.decDigits_two a c] at h;simp only[Zaq,Zbh,Zo] at h;have e:=Qbdl (by omega) (by omega) h.1;have e2:=Qbdl (by omega) (by omega) h.2.1
  grind
def Q9x(t:List Int):Prop:=∀x∈t,0<=x/\x<100
theorem Qbb2:∀{l m:List Int},Q9x l->Q9x m->keyL l=keyL m->l=m
 |[],[],_,_,_=>rfl
 |[],y::m,_,_,h=>by
  have:=congrArg List.length h;simp[keyL] at this
 |x::l,[],_,_,h=>by
  have:=congrArg List.length h;simp[keyL] at this
 |x::l,y::m,b,hm,h=>by
  have f:=b x (by simp);have e:=hm y (by simp);have d : Lib.decDigits x.toNat++32::keyL l=Lib.decDigits y.toNat++32::keyL m:=by simpa[keyL] using h
  obtain⟨g,c⟩:=Qbob (by omega) (by omega) d;rw[Qbb2 (fun z a=>b z (by simp[a])) (fun z a=>hm z (by simp[a])) c,show x=y from by omega]
theorem Qbjs{l m:List Int}(b:Q9x l)(a:Q9x m)(h:keyB l=keyB m):l=m:=by
 unfold keyB at h;simp only[ByteArray.mk.injEq] at h;exact Qbb2 b a (by grind)
theorem Qbb3{a:Type}{v:a}{k k' : ByteArray}:∀{m:List (ByteArray×a)},hasM (setM m k v) k'=(decide (k'=k)||hasM m k')
 |[]=>by simp[setM,hasM,Qn1]
 |(q,w)::m=>by
  by_cases b:k=q
  ·subst b;simp only[setM,Qn1,decide_true,if_true,Qky]
   grind
  ·simp only[setM,Qn1,decide_eq_false b,Zg,if_false,Qky,Qbb3 (m:=m)]
   grind
theorem Qbb4{c:Type}{z v:c}{k k' : ByteArray}:∀{m:List (ByteArray×c)},getM (setM m k v) k' z=if k'=k then v else getM m k' z
 |[]=>by simp[setM,getM,Qn1]
 |(q,w)::m=>by
  by_cases b:k=q
  ·subst b;by_cases a:k'=k<;>simp[setM,getM,Qn1,a]
  ·by_cases a:k'=q
   ·subst a;have d:¬k'=k:=fun e=>b e.symm;simp[setM,getM,Qn1,b,d]
   ·simp[setM,getM,Qn1,b,a,Qbb4 (m:=m)]
def MapK(m:List (ByteArray×Int))(st:List (List Int)):Prop:=∀r,Q9x r->hasM m (keyB r)=decide (r∈st)/\(r∈st->getM m (keyB r) 0=(st.idxOf r:Int))
theorem MapK.ins{m:List (ByteArray×Int)}{st:List (List Int)}(h:MapK m st){r:List Int}(hr:r∉st)(c:Q9x r):MapK (setM m (keyB r) (st.length:Int)) (st++[r]):=by
 intro x a;obtain⟨d,g⟩:=h x a;have b:keyB x=keyB r↔x=r:=⟨fun e=>Qbjs a c e,fun e=>by rw[e]⟩;refine⟨?_,fun f=>?_⟩
 ·rw[Qbb3,d,Bool.eq_iff_iff];grind
 ·rw[Qbb4]
  grind
abbrev TS:=List (List Int)×List Qb×List (ByteArray×Int)
def rowM(stp:List Int->Int->Option (List Int))(i:Nat)(s:List Int)(p:TS)(e:Int):TS :=
 match stp s e with
 |none=>p
 |some t=>if t∈p.1 then (p.1,p.2.1++[⟨(i:Int),e,(p.1.idxOf t:Int)⟩],p.2.2) else (p.1++[t],p.2.1++[⟨(i:Int),e,(p.1.length:Int)⟩],setM p.2.2 (keyB t) (p.1.length:Int))
def bldM(stp:List Int->Int->Option (List Int))(mk:List Int->Bool)(al:List Int):Nat->Nat->List Int->TS->List (List Int)×List Int×List Qb
 |0,_,ms,p=>(p.1,ms,p.2.1)
 |f+1,i,ms,p=>match p.1[i]? with
  |none=>(p.1,ms,p.2.1)
  |some s=>bldM stp mk al f (i+1) (if mk s then ms++[(i:Int)] else ms) (al.foldl (rowM stp i s) p)
structure DomT(stp:List Int->Int->Option (List Int))(al:List Int)(P:List Int->Prop)(N:Nat):Prop where
 ky:∀x,P x->Q9x x
 cl:∀x,P x->∀e∈al,∀t,stp x e=some t->P t
 bd:∀l:List (List Int),l.Nodup->(∀x∈l,P x)->l.length<=N
 nn:N<=4000
 so:al.Pairwise (· < ·)
 rg:∀x∈al,0<=x/\x<32
structure FndT(al:List Int)(P:List Int->Prop)(i:Nat)(p:TS):Prop where
 nd:p.1.Nodup
 su:∀x∈p.1,P x
 mp:MapK p.2.2 p.1
 ed:p.2.1.Pairwise Qjc
 er:∀x∈p.2.1,0<=x.From/\x.From<i/\0<=x.To/\x.To<p.1.length/\x.Event∈al
theorem Qbfi{l:List Int}(h:l.Pairwise (· < ·))(b:∀x∈l,0<=x/\x<32):l.length<=32:=by
 have hr:Right ⟨l,0,[],[]⟩:={ al0:=b,al:=h,st:=⟨Zbg 0,by grind⟩,ma0:=fun x a=>by simp at a,ma:=List.Pairwise.nil,ed0:=fun x a=>by simp at a,ed:=List.Pairwise.nil };exact hr.small.2.1
section
variable{stp:List Int->Int->Option (List Int)}{mk:List Int->Bool}{al:List Int}{P:List Int->Prop}{N:Nat}(hd:DomT stp al P N)
structure RowT(al:List Int)(P:List Int->Prop)(i:Nat)(done:List Int)(p0 p:TS):Prop where
 nd:p.1.Nodup
 su:∀x∈p.1,P x
 mp:MapK p.2.2 p.1
 pre:p0.1 <+: p.1
 ed:p.2.1.Pairwise Qjc
 er:∀x∈p.2.1,0<=x.From/\x.From<=i/\0<=x.To/\x.To<p.1.length/\x.Event∈al/\(x.From=i->x.Event∈done)
 ln:p.2.1.length<=p0.2.1.length+done.length
include hd
theorem RowT.step{i:Nat}{done:List Int}{p0 p:TS}{s:List Int}{e:Int}(h:RowT al P i done p0 p)(w:P s)(E:e∈al)(z:∀x∈done,x<e):RowT al P i (done++[e]) p0 (rowM stp i s p e):=by
 have A:=h.ln;unfold rowM;cases hst:stp s e with
 |none =>
  exact⟨h.nd,h.su,h.mp,h.pre,h.ed,fun x c=>by
   obtain⟨u,r,q,o,a5,n⟩:=h.er x c
   grind,by grind⟩
 |some t =>
  have v:=hd.cl s w e E t hst;have d:∀(k:Int),0<=k->∀(L:List (List Int)),k<L.length->(p.1 <+: L)->(p.2.1++[(⟨(i:Int),e,k⟩ : Qb)]).Pairwise Qjc /\
    ∀x∈p.2.1++[(⟨(i:Int),e,k⟩ : Qb)],0<=x.From/\x.From<=i/\0<=x.To/\x.To<L.length/\x.Event∈al/\(x.From=i->x.Event∈done++[e]):=by
   intro k F L C f;have B:=f.length_le;refine⟨Zbb.2 ⟨h.ed,List.pairwise_singleton _ _,fun x c y m=>?_⟩,fun x c=>?_⟩
   ·simp only[Zal] at m;subst m;obtain⟨u,r,q,o,a5,n⟩:=h.er x c
    grind [Qjc]
   ·rcases Zp.1 c with c|c
    ·obtain⟨u,r,q,o,a5,n⟩:=h.er x c
     grind
    grind
  dsimp only;by_cases l:t∈p.1
  ·rw[if_pos l];obtain⟨j,g⟩:=d (p.1.idxOf t:Int) (by omega) p.1 (by grind) (Zbp _);exact⟨h.nd,h.su,h.mp,h.pre,j,g,by grind⟩
  ·rw[if_neg l];obtain⟨j,g⟩:=d (p.1.length:Int) (by omega) (p.1++[t]) (by grind) (List.prefix_append _ _);refine⟨?_,fun x c=>?_,h.mp.ins l (hd.ky t v),List.IsPrefix.trans h.pre (List.prefix_append _ _),j,g,by grind⟩
   ·dsimp only;rw[List.nodup_append];refine⟨h.nd,by simp,fun a ha b hb=>?_⟩
    grind
   ·rcases Zp.1 c with c|c
    ·exact h.su x c
    grind
theorem RowT.fold{i:Nat}{p0:TS}{s:List Int}(a:P s):∀{es done:List Int}{p:TS},done++es=al->RowT al P i done p0 p->RowT al P i al p0 (es.foldl (rowM stp i s) p)
 |[],done,p,he,h=>by grind
 |e::es,done,p,he,h=>by
  rw[Zbd];refine RowT.fold a (done:=done++[e]) (by rw[<-he];simp) (h.step hd a (by rw[<-he];simp) fun x b=>?_);have:=hd.so;rw[<-he,Zbb] at this;exact this.2.2 x b e (by simp)
theorem FndT.row{i:Nat}{p:TS}(h:FndT al P i p){s:List Int}(b:P s):FndT al P (i+1) (al.foldl (rowM stp i s) p)/\p.1 <+: (al.foldl (rowM stp i s) p).1/\(al.foldl (rowM stp i s) p).2.1.length<=p.2.1.length+al.length:=by
 have:=RowT.fold hd (i:=i) (p0:=p) (p:=p) b (es:=al) (done:=[]) rfl ⟨h.nd,h.su,h.mp,Zbp _,h.ed,fun x a=>by
  obtain⟨f,e,d,c,a5⟩:=h.er x a
  grind,by simp⟩
 exact⟨⟨this.nd,this.su,this.mp,this.ed,fun x a=>by
  obtain⟨f,e,d,c,a5,_⟩:=this.er x a
  grind⟩,this.pre,this.ln⟩
theorem FndT.len{i:Nat}{p:TS}(h:FndT al P i p):p.1.length<=N:=hd.bd _ h.nd h.su
structure MksT(i:Nat)(ms:List Int):Prop where
 rg:∀x∈ms,0<=x/\x<i
 so:ms.Pairwise (· < ·)
theorem Q8p(mk:List Int->Bool):∀{f i:Nat}{ms:List Int}{p:TS},FndT al P i p->MksT i ms->i<=p.1.length->N+1<=f+i ->
  Right ⟨al,((bldM stp mk al f i ms p).1.length:Int),(bldM stp mk al f i ms p).2.1,(bldM stp mk al f i ms p).2.2⟩/\(∀x∈(bldM stp mk al f i ms p).1,P x)/\(bldM stp mk al f i ms p).1.length<=N/\p.1 <+: (bldM stp mk al f i ms p).1
 |0,i,ms,p,h,hm,l,m=>by have:=h.len hd;omega
 |f+1,i,ms,p,h,hm,l,m=>by
  have v:=hd.nn;have j:=h.len hd;rw[bldM];cases hg:p.1[i]? with
  |none =>
   have k:i=p.1.length:=by grind
   dsimp only;refine⟨⟨hd.rg,hd.so,⟨by dsimp only;omega,by dsimp only;omega⟩,fun x c=>?_,hm.so,fun x c=>?_,h.ed⟩,h.su,j,Zbp _⟩
   ·have:=hm.rg x c;dsimp only;omega
   ·have:=h.er x c;grind
  |some s =>
   have d:=h.su s (Zn hg);obtain⟨o,n,w⟩:=h.row hd d;have e:i<p.1.length:=(Zm.1 hg).1;have g:=n.length_le;dsimp only;obtain⟨u,t,r,q⟩:=Q8p mk (f:=f) (i:=i+1) (ms:=if mk s then ms++[(i:Int)] else ms) o (by
    split
    ·refine⟨fun x c=>?_,Zbb.2 ⟨hm.so,List.pairwise_singleton _ _,fun a ha b hb=>?_⟩⟩
     ·rcases Zp.1 c with c|c
      ·have:=hm.rg x c;omega
      grind
     ·simp only[Zal] at hb;have:=hm.rg a ha;omega
    ·exact⟨fun x c=>by have:=hm.rg x c;omega,hm.so⟩) (by omega) (by omega)
   grind
end
end Go.Abs
end
section
namespace Go.Abs
open Go
structure Mrg(kp:Bool->Bool->Bool)(l m a b out:List Int):Prop where
 sa:a.Pairwise (· < ·)
 sb:b.Pairwise (· < ·)
 so:out.Pairwise (· < ·)
 oa:∀o∈out,∀x∈a,o<x
 ob:∀o∈out,∀x∈b,o<x
 ln:out.length+a.length+b.length<big
 eq:∀x,(x∈out\/kp (decide (x∈a)) (decide (x∈b))=true)↔kp (decide (x∈l)) (decide (x∈m))=true
theorem Mrg.step{kp:Bool->Bool->Bool}(v:kp false false=false){l m a b out d c : List Int}{z:Int}{p q:Bool}(h:Mrg kp l m a b out)(ha:a=if p then z::d else d)(hb:b=if q then z::c else c)(i:p=true\/q=true)(f:∀x∈d,z<x)(e:∀x∈c,z<x):Mrg kp l m d c (if kp p q then out++[z] else out):=by
 have ma:∀x,x∈a↔(p=true/\x=z)\/x∈d:=fun x=>by grind
 have n:∀x,x∈b↔(q=true/\x=z)\/x∈c:=fun x=>by grind
 have r:∀o∈out,o<z:=fun o ho=>by
  rcases i with rfl|rfl
  ·exact h.oa o ho z ((ma z).2 (.inl ⟨rfl,rfl⟩))
  ·exact h.ob o ho z ((n z).2 (.inl ⟨rfl,rfl⟩))
 have s:∀o,o∈(if kp p q then out++[z] else out)↔o∈out\/(kp p q=true/\o=z):=fun o=>by cases kp p q<;>simp
 have k : z∉d:=fun g=>by have:=f z g;omega
 have j : z∉c:=fun g=>by have:=e z g;omega
 refine⟨?_,?_,?_,?_,?_,?_,fun x=>?_⟩
 ·have:=h.sa;grind
 ·have:=h.sb;grind
 ·cases kp p q
  ·exact h.so
  ·simp only[if_true];rw[Zbb];exact⟨h.so,by simp,fun o ho y t=>by grind⟩
 ·grind
 ·grind
 ·have u:=h.ln
  grind
 ·rw[<-h.eq x,s]
  grind
theorem Qblz{kp:Bool->Bool->Bool}{keep:Bool->Bool->Option Bool}(hk:∀p q,keep p q=some (kp p q))(o:kp false false=false){l m:List Int}(hl:l.Pairwise (· < ·))(hm:m.Pairwise (· < ·))(hlm:l.length+m.length<big):
  ∃R,Qhm l m keep=some R/\R.Pairwise (· < ·)/\∀x,x∈R↔kp (decide (x∈l)) (decide (x∈m))=true:=by
 unfold Qhm Qcp;obtain⟨fuel,hfu,hge⟩ : ∃f,Q0=f/\1099511627776<=f:=⟨_,rfl,Ze _⟩;rw[hfu];have I:∀(x:Int)(l:List Int),getO (x::l) 0=some x:=fun x l=>Qy (l:=x::l) (n:=0) (by simp);have J:∀(x:Int)(l:List Int),slcO (x::l) 1 ((x::l).length:Int)=some l:=fun x l=>by
  grind [Q4p,List.take_length]
 have key:=Qb1 (F:=fun(u:List Int×List Int×List Int->Option (List Int))((a11,b12,out13):(List Int)×(List Int)×(List Int))=>(((if ((a11.length:Int)>0) then some true else some (decide ((b12.length:Int)>0)))).bind fun(X:Bool)=>(if X then (((if ((a11.length:Int)>0) then (if ((b12.length:Int)==0) then some true else ((getO a11 0).bind fun W=>((getO b12 0).bind fun U=>some (decide (W<=U))))) else some false)).bind fun(g:Bool)=>(((if ((b12.length:Int)>0) then (if ((a11.length:Int)==0) then some true else ((getO b12 0).bind fun T=>((getO a11 0).bind fun S=>some (decide (T<=S))))) else some false)).bind fun(e:Bool)=>(((if g then ((getO a11 0).bind fun Q=>((slcO a11 1 (a11.length:Int)).bind fun P=>some (P,Q))) else some (a11,0))).bind fun((H,O):(List Int)×Int)=>(((if e then ((getO b12 0).bind fun N=>((slcO b12 1 (b12.length:Int)).bind fun M=>some (M,N))) else some (b12,O))).bind fun((E,L):(List Int)×Int)=>((keep g e).bind fun j=>(if j then ((appO out13 [L]).bind fun i=>u (H,E,i)) else u (H,E,out13))))))) else some out13)))
  (fun x:List Int×List Int×List Int=>Mrg kp l m x.1 x.2.1 x.2.2) (fun x=>x.1.length+x.2.1.length) (fun _ r=>∃R,r=some R/\R.Pairwise (· < ·)/\∀x,x∈R↔kp (decide (x∈l)) (decide (x∈m))=true) ?_ fuel (l,m,[]) ⟨hl,hm,by simp,by simp,by simp,by simpa using hlm,by simp⟩ (by grind)
 ·grind
 rintro k ⟨a,b,out⟩ h ih;dsimp only at h ih |-;have d:=h.ln;have A:∀z:Int,out.length+1<=big->appO out [z]=some (out++[z]):=fun z v=>Qbm (by simp only[Zs,Zaj];unfold lim;unfold big at v;omega);have c:∀(t s : List Int)(z:Int)(p q:Bool),out.length+1<=big->Mrg kp l m t s (if kp p q then out++[z] else out)->t.length+s.length<a.length+b.length ->
   ∃R,((keep p q).bind fun j=>if j then ((appO out [z]).bind fun i=>k (t,s,i)) else k (t,s,out))=some R/\R.Pairwise (· < ·)/\∀x,x∈R↔kp (decide (x∈l)) (decide (x∈m))=true:=by
  intro t s z p q v hM hlt;rw[hk,A z v];simp only[Za];have:=ih (t,s,if kp p q then out++[z] else out) hM hlt
  grind
 match a,b,h,c,d with
 |[],[],h,c,d =>
  refine⟨out,by simp,h.so,fun x=>?_⟩;rw[<-h.eq x];simp[o]
 |[],y::ys,h,c,d =>
  rw[show ((([]:List Int).length:Nat):Int)=0 from rfl];have hp:(((y::ys).length:Nat):Int)>0:=by grind
  rw[if_neg (by omega),Za,if_pos (by simp)];rw[if_neg (by omega),Za,if_pos hp,if_pos (by rfl),Za,if_neg (by simp),Za,if_pos rfl,I,J];simp only[Za];exact c [] ys y false true (by grind) (h.step o (z:=y) (p:=false) (q:=true) rfl rfl (.inr rfl) (by simp) (Zam.1 h.sb).1) (by simp)
 |x::xs,[],h,c,d =>
  rw[show ((([]:List Int).length:Nat):Int)=0 from rfl];have hp:(((x::xs).length:Nat):Int)>0:=by grind
  rw[if_pos hp,Za,if_pos rfl,if_pos hp,if_pos (by rfl),Za,if_neg (by omega),Za,if_pos rfl,I,J];simp only[Za,Zg,if_false];exact c xs [] x true false (by grind) (h.step o (z:=x) (p:=true) (q:=false) rfl rfl (.inl rfl) (Zam.1 h.sa).1 (by simp)) (by simp)
 |x::xs,y::ys,h,c,d =>
  obtain⟨B,ha2⟩:=Zam.1 h.sa;obtain⟨w,hb2⟩:=Zam.1 h.sb;have hp:(((x::xs).length:Nat):Int)>0:=by grind
  have hq:(((y::ys).length:Nat):Int)>0:=by grind
  have hp0:((((x::xs).length:Nat):Int)==0)=false:=by grind
  have hq0:((((y::ys).length:Nat):Int)==0)=false:=by grind
  rw[if_pos hp,Za,if_pos rfl,if_pos hp,if_neg (by rw[hq0];simp),I,I,Za,Za,Za,if_pos hq,if_neg (by rw[hp0];simp),Za,Za,Za,J,J];simp only[Zs] at d;rcases Int.lt_trichotomy x y with hxy|rfl|hxy
  ·have C:decide (x<=y)=true:=decide_eq_true (by omega);have e2:decide (y<=x)=false:=decide_eq_false (by omega);simp only[C,e2,Za,if_true,Zg,if_false];exact c xs (y::ys) x true false (by omega) (h.step o (z:=x) (p:=true) (q:=false) rfl rfl (.inl rfl) B (fun z v=>by
    grind)) (by simp)
  ·have C:decide (x<=x)=true:=decide_eq_true (by omega);simp only[C,Za,if_true];exact c xs ys x true true (by omega) (h.step o (z:=x) (p:=true) (q:=true) rfl rfl (.inl rfl) B w) (by simp;omega)
  ·have C:decide (x<=y)=false:=decide_eq_false (by omega);have e2:decide (y<=x)=true:=decide_eq_true (by omega);simp only[C,e2,Za,if_true,Zg,if_false];exact c (x::xs) ys y false true (by omega) (h.step o (z:=y) (p:=false) (q:=true) rfl rfl (.inr rfl) (fun z v=>by
    grind) w) (by simp)
end Go.Abs
end
section
namespace Go.Abs
open Go
theorem Qbl0{l m:List Int}(c:l.Pairwise (· < ·))(b:m.Pairwise (· < ·))(a:l.length+m.length<big):
  ∃R,Qja l m=some R/\R.Pairwise (· < ·)/\∀x,x∈R↔x∈l\/x∈m:=by
 unfold Qja Qfm;obtain⟨R,f,e,d⟩:=Qblz (kp:=fun p q=>p||q) (keep:=Qm1) (fun p q=>by cases p<;>cases q<;>rfl) rfl c b a;exact⟨R,by rw[f];rfl,e,fun x=>by rw[d];simp⟩
end Go.Abs
end
section
namespace Go.Abs
open Go
end Go.Abs
end
section
namespace Go.Abs
open Go
theorem Qbjt{α:Type}[DecidableEq α]{s t:List α}{ne:α->α->Bool}(d:∀x y,ne x y=decide (x≠y))(l:s.length=t.length)(h:s.length<1000000000000):
  Qbp (fun j(b:Int)=>(if (b<(s.length:Int)) then ((getO s b).bind fun g=>((getO t b).bind fun f=>(if ne g f then some false else j (IntKind.wrap .i64 (b+1))))) else some true)) Q0 0=some (decide (s=t)):=by
 refine Q12 (fun i:Int=>∃n:Nat,i=n/\n<=s.length/\s.take n=t.take n) (fun i=>s.length-i.toNat) _ ⟨0,rfl,by omega,by simp⟩ (by unfold Q0;omega) ?_;rintro k _ ⟨n,rfl,hn,he⟩ ih;by_cases a:n<s.length
 ·rw[if_pos (by omega),Qy a,Qy (by omega:n<t.length)];simp only[Za,d];by_cases c:s[n]=t[n]
  ·rw[if_neg (by simp[c]),Qx (by omega)];exact ih _ ⟨n+1,rfl,by omega,Q3w a (by omega) he c⟩ (by omega)
  ·rw[if_pos (by simp[c])];have:s≠t:=fun e=>c (by subst e;rfl);simp[this]
 ·rw[if_neg (by omega)];have e:n=s.length:=by omega
  have:s=t:=by
   rw[e,Zbf,l,Zbf] at he;exact he
  simp[this]
theorem Qbju{s t:List Int}(h:s.length<1000000000000):Qjv s t=some (decide (s=t)):=by
 unfold Qjv Qd0;by_cases a:s.length=t.length
 ·rw[if_neg (by simp[a])];exact Qbjt (ne:=fun x y=>x != y) (fun x y=>by rw[Bool.eq_iff_iff];simp) a h
 ·rw[if_pos (by simp;omega)];have:s≠t:=fun e=>a (by rw[e]);simp[this]
theorem Qbfj{s t:List Int}(h:s.length<1000000000000):Qfa s t=some (decide (s=t)):=Qbju h
end Go.Abs
end
section
namespace Go.Abs
open Go
theorem Qly{l:List Int}{v:Int}(a:l.Pairwise (· < ·))(b:l.length<big):Qfw l v=some (decide (v∈l)):=by
 unfold Qfw Qba;obtain⟨n,h⟩:=Qbb1 (v:=v) a b;rw[h];rfl
structure SetP(n:Int)(l:List Int):Prop where
 rg:∀x∈l,0<=x/\x<n
 so:l.Pairwise (· < ·)
theorem SetP.small{n:Int}{l:List Int}(h:SetP n l)(a:n<=4096):l.length<=4096:=by
 have:=Qjf h.so h.rg;omega
end Go.Abs
end
section
namespace Go.Abs
open Go
theorem Q19{κ b:Type}[BEq κ][LawfulBEq κ][DecidableEq κ]{v:b}{k k' : κ}:∀{m:List (κ×b)},hasM (setM m k v) k'=(decide (k'=k)||hasM m k')
 |[]=>by simp only[setM,hasM,Zae,List.any_nil,Bool.or_false];grind
 |(q,w)::m=>by
  by_cases c:k=q
  ·subst c;simp only[setM,beq_self_eq_true,if_true,Qky]
   grind
  ·have a : (k==q)=false:=by simp[c]
   simp only[setM,a,Zg,if_false,Qky,Q19 (m:=m)]
   grind
theorem Q2a{κ f:Type}[BEq κ][LawfulBEq κ][DecidableEq κ]{z v:f}{k k' : κ}:∀{m:List (κ×f)},getM (setM m k v) k' z=if k'=k then v else getM m k' z
 |[]=>by simp[setM,getM]
 |(q,w)::m=>by
  by_cases d:k=q
  ·subst d;by_cases b:k'=k<;>simp[setM,getM,b]
  ·have a : (k==q)=false:=by simp[d]
   by_cases b:k'=q
   ·subst b;have g:¬k'=k:=fun e=>d e.symm;simp[setM,getM,a,g]
   ·have c : (k'==q)=false:=by simp[b]
    simp[setM,getM,a,c,Q2a (m:=m)]
def edM(a:Qa):List ((Int×Int)×Int):=a.zD.foldl (fun c x=>setM c (x.From,x.Event) x.To) []
theorem Q9y:∀{es:List Qb}{c:List ((Int×Int)×Int)}{s e:Int},es.Pairwise Qjc ->
  hasM (es.foldl (fun c x=>setM c (x.From,x.Event) x.To) c) (s,e)=((es.find? fun x=>x.From==s&&x.Event==e).isSome||hasM c (s,e)) /\
  getM (es.foldl (fun c x=>setM c (x.From,x.Event) x.To) c) (s,e) 0=match es.find? (fun x=>x.From==s&&x.Event==e) with|some x=>x.To|none=>getM c (s,e) 0
 |[],c,s,e,_=>by simp
 |x::es,c,s,e,h=>by
  obtain⟨n,j⟩:=Zam.1 h;obtain⟨d,b⟩:=Q9y (es:=es) (c:=setM c (x.From,x.Event) x.To) (s:=s) (e:=e) j;rw[Zbd,d,b,Q19,Q2a,List.find?_cons];by_cases a:x.From=s/\x.Event=e
  ·obtain⟨rfl,rfl⟩:=a;have i:es.find? (fun y=>y.From==x.From&&y.Event==x.Event)=none:=by
    rw[List.find?_eq_none];intro y k f;simp only[Zc,beq_iff_eq] at f
    grind [Qjc]
   simp[i]
  ·have hb:(x.From==s&&x.Event==e)=false:=by
    grind
   have g:¬((s,e)=(x.From,x.Event)):=fun m=>a ⟨by grind,by grind⟩
   grind
theorem Qbjv{a:Qa}(h:Right a)(s e:Int):hasM (edM a) (s,e)=decide (0<=Q1 a s e):=by
 unfold edM Q1;rw[(Q9y h.ed).1];cases hf:a.zD.find? fun x=>x.From==s&&x.Event==e with
 |none=>simp[hasM]
 |some x =>
  have:=(h.ed0 x (Zbx hf)).2.2.1;simp[this]
theorem Qbjw{a:Qa}(h:Right a){s e:Int}(b:0<=Q1 a s e):getM (edM a) (s,e) 0=Q1 a s e:=by
 unfold edM Q1 at *
 rw[(Q9y h.ed).2]
 grind
def InT:List Qa->List Int->Prop
 |[],[]=>True
 |a::l,x::t=>(0<=x/\x<a.zF)/\InT l t
 |_,_=>False
theorem InT.len:∀{l:List Qa}{t:List Int},InT l t->t.length=l.length
 |[],[],_=>rfl
 |a::l,x::t,h=>by simp[InT.len h.2]
 |[],_::_,h=>h.elim
 |_::_,[],h=>h.elim
theorem InT.get:∀{l:List Qa}{t:List Int},InT l t->∀(i:Nat)(b:i<l.length)(c:i<t.length),0<=t[i]/\t[i]<l[i].zF
 |a::l,x::t,h,0,_,_=>h.1
 |a::l,x::t,h,i+1,b,c=>InT.get h.2 i (by simpa using b) (by simpa using c)
 |[],_,_,i,b,_=>by simp at b
 |_::_,[],h,_,_,_=>h.elim
def allT:List Qa->List (List Int)
 |[]=>[[]]
 |a::l=>(upto a.zF).flatMap fun x=>(allT l).map (x :: ·)
theorem Qbfk:∀{l:List Qa}{t:List Int},InT l t->t∈allT l
 |[],[],_=>by simp[allT]
 |a::l,x::t,h=>by
  simp only[allT,List.mem_flatMap,Zl];exact⟨x,Qyo.2 h.1,t,Qbfk h.2,rfl⟩
 |[],_::_,h=>h.elim
 |_::_,[],h=>h.elim
theorem Q9z:∀{l:List Qa},(allT l).length=l.foldr (fun a n=>a.zF.toNat*n) 1
 |[]=>rfl
 |a::l=>by
  simp only[allT,List.length_flatMap,Zu,List.foldr_cons,<-Q9z (l:=l)];generalize (allT l).length=n;have:∀u:List Int,(u.map fun _=>n).sum=u.length*n:=fun u=>by
   induction u with
   |nil=>simp
   |cons x u b=>simp only[Zb,List.sum_cons,b,Zs,Zv];omega
  rw[this,Qpy]
theorem Qbfl{a:Type}[DecidableEq a]:∀{l m:List a},l.Nodup->(∀x∈l,x∈m)->l.length<=m.length
 |[],_,_,_=>by simp
 |x::l,m,h,c=>by
  obtain⟨e,d⟩:=List.nodup_cons.1 h;have f:=c x (by simp);have:=Qbfl (l:=l) (m:=m.erase x) d fun y b=>(List.mem_erase_of_ne (by rintro rfl;exact e b)).2 (c y (by simp[b]))
  grind
def Qbdm(a:Qa)(x e:Int):Option Int:=if e∈a.zB then (if 0<=Q1 a x e then some (Q1 a x e) else none) else some x
def Qul:List Qa->List Int->Int->Option (List Int)
 |a::l,x::t,e=>match Qbdm a x e with
  |some y=>(Qul l t e).map (y :: ·)
  |none=>none
 |_,_,_=>some []
def Q7e(e:Int):List Int->List (Qa×Int)->Option (List Int)
 |acc,[]=>some acc
 |acc,q::a=>match Qbdm q.1 q.2 e with
  |some y=>Q7e e (acc++[y]) a
  |none=>none
theorem Qbfm{e:Int}:∀{l:List Qa}{t b:List Int},Q7e e b (l.zip t)=(Qul l t e).map (b ++ ·)
 |[],t,b=>by simp[Q7e,Qul]
 |a::l,[],b=>by simp[Q7e,Qul]
 |a::l,x::t,b=>by
  rw[List.zip_cons_cons,Q7e,Qul];cases Qbdm a x e with
  |none=>rfl
  |some y =>
   dsimp only;rw[Qbfm];cases Qul l t e<;>simp
theorem Q90:∀{l:List Qa}{t:List Int}{e:Int}{r:List Int},(∀a∈l,Right a)->InT l t->Qul l t e=some r->InT l r
 |[],[],e,r,_,_,h=>by grind [Qul]
 |a::l,x::t,e,r,hr,c,h=>by
  rw[Qul] at h;cases h1:Qbdm a x e with
  |none=>rw[h1] at h;cases h
  |some y =>
   rw[h1] at h;dsimp only at h;obtain⟨f,d,rfl⟩:=Zd.1 h;refine⟨?_,Q90 (fun b hb=>hr b (by simp[hb])) c.2 d⟩;unfold Qbdm at h1;split at h1
   ·grind [Qb0]
   ·cases h1;exact c.1
 |[],_::_,_,_,_,h,_=>h.elim
 |_::_,[],_,_,_,h,_=>h.elim
def mkT(l:List Qa)(t:List Int):Bool:=(l.zip t).all fun q=>decide (q.2∈q.1.zC)
structure Parts(l:List Qa):Prop where
 r:∀a∈l,Right a
 s:∀a∈l,a.zF<=100
 n:l.length<=12
 b:(allT l).length<=4000
section
variable{l:List Qa}(h:Parts l)
include h
theorem Parts.big:l.length<Go.Abs.big:=by have:=h.n;unfold Go.Abs.big;omega
theorem Qyb:Qm0 l=some 0:=by
 unfold Qm0 Qgc;have c:=h.n;rw[if_neg (by omega)];refine Qlb (len:=l.length) (fun _=>some 0) (by unfold Q0;omega) (fun k n a b=>?_) (fun k=>?_)
 ·rw[if_pos (by omega),Qy a,Za,Qvj (h.r _ (Zr a)),Za,if_neg (by simp),Qx (by omega)];exact b
 grind
structure EvsU(l:List Qa)(R:List Int):Prop where
 so:R.Pairwise (· < ·)
 me:∀x,x∈R↔∃a∈l,x∈a.zB
theorem EvsU.rg{R:List Int}(hR:EvsU l R):∀x∈R,0<=x/\x<32:=fun x b=>by
 obtain⟨a,ha,b⟩:=(hR.me x).1 b;exact (h.r a ha).al0 x b
theorem Qboc:∃R,Qgn l=some R/\EvsU l R:=by
 unfold Qgn Qfn;have hb:=h.n;obtain⟨R,t,s⟩ : ∃R,Qbp (fun i((b,e):(List Int)×Int)=>(if (e<(l.length:Int)) then ((getO l e).bind fun g=>((Qja b g.zB).bind fun f=>i (f,(IntKind.wrap .i64 (e+1))))) else some b)) Q0 ([],0)=some R/\EvsU l R:=by
  refine Qb1 (fun x:List Int×Int=>∃n:Nat,x.2=n/\n<=l.length/\EvsU (l.take n) x.1) (fun x=>l.length-x.2.toNat) (fun _ r=>∃R,r=some R/\EvsU l R) ?_ Q0 ([],0) ⟨0,rfl,Zw _,.nil,fun x=>by simp⟩ (by unfold Q0;dsimp only;omega);rintro k ⟨out,x⟩ ⟨n,d,hn,he⟩ ih;dsimp only at d he ih |-;subst d;by_cases c:n<l.length
  ·have ha:=h.r _ (Zr c);have q:out.length<=32:=Qbfi he.so fun x d=>by
    obtain⟨a,ha,d⟩:=(he.me x).1 d;exact (h.r a (List.mem_of_mem_take ha)).al0 x d
   have p:=ha.small.2.1;obtain⟨R,o,m,j⟩:=Qbl0 he.so ha.al (by unfold Go.Abs.big;omega);rw[if_pos (by omega),Qy c,Za,o,Za,Qx (by omega)];refine ih (R,((n+1:Nat):Int)) ⟨n+1,rfl,c,m,fun x=>?_⟩ (by dsimp only;omega);rw[j,he.me]
   grind [List.take_succ_eq_append_getElem,List.mem_append_left,List.mem_append_right,List.mem_singleton_self,List.mem_singleton]
  grind
 grind
theorem Qbfn{R:List Int}(hR:Qgn l=some R):Qob l=some ⟨l,R,l.map edM⟩:=by
 unfold Qob Qgv;obtain⟨fuel,e,d⟩ : ∃f,Q0=f/\1099511627776<=f:=⟨_,rfl,Ze _⟩;have o:=h.n;rw[e,hR,Za];refine Zas.2 ⟨([],[],[],l.map edM),?_,rfl⟩;refine (Q16 (l:=l) (fun i(s:List (List ((Int×Int)×Int)))=>(i,([]:List Qa),([]:List Int),([]:List (List ((Int×Int)×Int))),s)) (fun s a=>s++[edM a]) (fun n s=>s.length<=n) (fun s=>some ([],[],[],s)) h.big d (fun k n s b g=>?_) (fun n s _ g=>by grind) (fun k s g=>?_) (s0:=[]) (by simp)).trans ?_
 ·dsimp only;rw[if_pos (by omega),Qy b,Za];have ha:=(h.r _ (Zr b)).small;rw[Q16 (l:=l[n].zD) (fun i(s:List ((Int×Int)×Int))=>(i,s)) (fun c x=>setM c (x.From,x.Event) x.To) (fun _ _=>True) (fun s=>some s) ha.1.2.2 d (fun k m s p _=>?_) (fun _ _ _ _=>trivial) (fun k s _=>?_) (s0:=[]) trivial]
  ·rw[Za,Qbm (by grind [List.length_cons,List.length_nil,lim]),Za,Za]
   rfl
  all_goals simp_all[if_pos,Qy,Za,if_neg]
 ·grind
 ·have:∀(m:List Qa)(s:List (List ((Int×Int)×Int))),m.foldl (fun s a=>s++[edM a]) s=s++m.map edM:=fun m=>by
   induction m with
   |nil=>intro s;simp
   |cons a m j=>grind
  grind
variable{R:List Int}(hR:EvsU l R)
theorem Q8q:Qf3 ⟨l,R,l.map edM⟩=some (if l.any (fun a=>a.zF==0) then ([],false) else (List.replicate l.length 0,true)):=by
 unfold Qf3 Qch;obtain⟨fuel,c,b⟩ : ∃f,Q0=f/\1099511627776<=f:=⟨_,rfl,Ze _⟩;have g:=h.n;rw[c];dsimp only;have e:mkO ((l.length:Nat):Int) (0:Int)=some (List.replicate l.length 0):=by unfold mkO lim;grind
 rw[Qbjk (l:=l) (fun i=>i) (fun a=>a.zF==0) (fun _=>some ([],false)) (some (List.replicate l.length 0,true)) h.big b (fun k n d=>?_) (fun k=>?_)]
 ·grind
 all_goals simp_all[if_pos,Qy,Za,if_neg,Q6l]
theorem Qbjx{t:List Int}(c:InT l t):Qgi ⟨l,R,l.map edM⟩ t=some (mkT l t):=by
 unfold Qgi Qcv;obtain⟨fuel,b,e⟩ : ∃f,Q0=f/\1099511627776<=f:=⟨_,rfl,Ze _⟩;have g:=h.n;have i:=c.len;rw[b];dsimp only;unfold mkT;refine Qlb (len:=l.length) (fun n=>some (((l.zip t).drop n).all fun q=>decide (q.2∈q.1.zC))) (by omega) (fun k n a d=>?_) (fun k=>?_)
 ·have ha:=h.r _ (Zr a);rw[if_pos (by omega),Qy a,Za,Qy (show n<t.length by omega),Za,Qly ha.ma ha.small.1.2.1,Za,Qx (by omega),d,Zai (show n<(l.zip t).length by grind),Zbc,List.getElem_zip]
  grind
 simp_all[if_neg,List.drop_of_length_le,List.length_zip]
theorem Qbl1{t:List Int}(o:InT l t)(c:t≠[])(e:Int):Qhc ⟨l,R,l.map edM⟩ t e=some (match Qul l t e with|some r=>(r,true)|none=>([],false)):=by
 unfold Qhc Qda;obtain⟨fuel,j,p⟩ : ∃f,Q0=f/\1099511627776<=f:=⟨_,rfl,Ze _⟩;have s:=h.n;have u:=o.len;have hc:Qbd t=some t:=by
  unfold Qbd Qk;cases t with
  |nil=>exact absurd rfl c
  |cons x t=>first|rfl|(show (appO [] (x::t)).bind _=_;grind [Qbm,List.length_nil,lim,List.length_cons])
 have i:neO t=some ():=by
  cases t with
  |nil=>exact absurd rfl c
  |cons x t=>rfl
 rw[j,hc,Za,i,Za];dsimp only;have q:Q7e e [] (l.zip t)=Qul l t e:=by simp[Qbfm,Qul]
 rw[<-q];refine Q12 (fun x:Int×List Int=>∃(n:Nat)(a:List Int),x.1=n/\n<=l.length/\a.length=n/\x.2=a++t.drop n/\Q7e e a ((l.zip t).drop n)=Q7e e [] (l.zip t)) (fun x=>l.length-x.1.toNat) _ ⟨0,[],rfl,Zw _,rfl,by simp,by simp⟩ (by dsimp only;omega) ?_;rintro k ⟨x,nx⟩ ⟨n,a,hx,hnl,hacc,hnx,hst⟩ ih;dsimp only at hx hnx hst ih |-;subst hx hnx;by_cases b:n<l.length
 ·have ha:=h.r _ (Zr b);rw[if_pos (by omega)];unfold letJ;dsimp only;rw[Qy b,Za,Qly ha.al ha.small.1.1,Za,Qx (by omega)];rw[Zai (show n<(l.zip t).length by grind),List.getElem_zip,Q7e] at hst;have g:t.drop n=t[n]::t.drop (n+1):=Zai (by omega);unfold Qbdm at hst;dsimp only at hst;by_cases d:e∈l[n].zB
  ·rw[if_pos d] at hst;rw[decide_eq_true d,if_pos rfl,Qy (show n<(l.map edM).length by simpa using b),Za,Qy (show n<t.length by omega),Za,List.getElem_map,Qbjv ha];by_cases m:0<=Q1 l[n] t[n] e
   ·rw[if_pos m] at hst;dsimp only at hst;rw[decide_eq_true m,if_pos rfl,Qbbr (by omega) (by omega),Za,Qbjw ha m,Qbn6 (by omega) (by grind),Za];refine ih _ ⟨n+1,a++[Q1 l[n] t[n] e],rfl,b,by simp[hacc],?_,hst⟩ (by dsimp only;omega);dsimp only;rw[g,Zaw,List.set_append_right _ _ (by omega),hacc,Nat.sub_self,List.set_cons_zero,Zbm];rfl
   grind
  ·rw[if_neg d] at hst;dsimp only at hst;rw[decide_eq_false d,if_neg (by simp)];refine ih _ ⟨n+1,a++[t[n]],rfl,b,by simp[hacc],?_,hst⟩ (by dsimp only;omega)
   grind
 ·rw[if_neg (by omega)]
  grind [List.drop_of_length_le,List.length_zip,Q7e,Q6l]
include hR in
theorem Parts.dom:DomT (Qul l) R (InT l) 4000 where
 ky:=fun t a x c=>by
  obtain⟨i,d,rfl⟩:=Zao c;have:=a.get i (by rw[<-a.len];exact d) d;have:=h.s _ (Zr (show i<l.length by rw[<-a.len];exact d));omega
 cl:=fun t a e _ r hr=>Q90 h.r a hr
 bd:=fun m g f=>Zac (Qbfl g fun x c=>Qbfk (f x c)) h.b
 nn:=Ze _
 so:=hR.so
 rg:=hR.rg h
end
end Go.Abs
end
section
namespace Go.Abs
open Go
theorem Qyc{α b:Type}{o:Option α}{K:α->Option b}{P:α->Prop}{Q:Option b->Prop}(h:∃v,o=some v/\P v)(c:∀v,P v->Q (K v)):Q (o.bind K):=by
 grind
structure MrgI(a:Qa)(cl:List Int)(i:Nat)(done:List Qb)(found:List Int)(es:List Qb)(c:List (Int×Int)):Prop where
 fc:FndC a.zF.toNat cl found c
 nm:∀(j:Nat)(f:Int),found[j]? = some f->getM c (ati cl f) 0=(j:Int)
 f0:found[0]? = some 0
 so:es.Pairwise Qjc
 e3:∀(j:Nat)(f:Int)(x:Qb),found[j]? = some f->x∈outP a f->(j<i\/j=i/\x∈done)->∃(k:Nat)(g:Int),found[k]? = some g/\ati cl g=ati cl x.To/\(⟨(j:Int),x.Event,(k:Int)⟩ : Qb)∈es
 e4:∀y∈es,∃(j:Nat)(f:Int)(x:Qb)(k:Nat)(g:Int),found[j]? = some f/\x∈outP a f/\y=⟨(j:Int),x.Event,(k:Int)⟩/\found[k]? = some g/\ati cl g=ati cl x.To/\(j<i\/j=i/\x∈done)
 ln:es.length<=32*i+done.length
theorem Qta{α:Type}{l m:List α}{j:Nat}{x:α}(h:l[j]? = some x):(l++m)[j]? = some x:=by
 grind
theorem Q2b{α:Type}{l:List α}{j:Nat}{t x:α}(h:(l++[t])[j]? = some x):l[j]? = some x\/j=l.length/\x=t:=by
 grind
section
variable{a:Qa}(h:Right a){cl:List Int}(hr:∀j:Nat,j<a.zF.toNat->0<=ati cl j/\ati cl j<a.zF.toNat)
include h
theorem Qbjy(s:Int):(outP a s).length<=32:=by
 have:=congrArg List.length (Qn0 h s);rw[Zu] at this;have c:(a.zB.filter fun e=>decide (0<=Q1 a s e)).length<=a.zB.length:=Zax _ _;have b:=h.small.2.1;omega
theorem Qbpe(s:Int):(outP a s).Pairwise fun x y=>x.Event<y.Event:=by
 have b:=Qn0 h s;have c:((outP a s).map (·.Event)).Pairwise (· < ·):=by rw[b];exact h.al.filter _
 grind
theorem Qbb5{s:Int}{x:Qb}(b:x∈outP a s):0<=x.To/\x.To<a.zF/\x.Event∈a.zB/\x.From=s:=by
 obtain⟨c,e⟩:=Zq.1 b;have d:=h.ed0 x c
 grind
theorem MrgI.add{i:Nat}{done:List Qb}{b:List Int}{es:List Qb}{c:List (Int×Int)}(d:MrgI a cl i done b es c){f:Int}(J:b[i]? = some f){x:Qb}(E:x∈outP a f)(R:∀z∈done,z.Event<x.Event):
  (hasM c (ati cl x.To)=true->MrgI a cl i (done++[x]) b (es++[⟨(i:Int),x.Event,getM c (ati cl x.To) 0⟩]) c) /\
  (hasM c (ati cl x.To)=false->MrgI a cl i (done++[x]) (b++[x.To]) (es++[⟨(i:Int),x.Event,(b.length:Int)⟩]) (setM c (ati cl x.To) (b.length:Int))):=by
 have F:=Qbb5 h E;have t:∀k:Int,(es++[(⟨(i:Int),x.Event,k⟩ : Qb)]).Pairwise Qjc:=fun k=>by
  refine Zbb.2 ⟨d.so,List.pairwise_singleton _ _,fun y m z M=>?_⟩;simp only[Zal] at M;subst M;obtain⟨j,l,n,k',g,r,o,s,p,B,L⟩:=d.e4 y m
  grind [Qjc]
 have v:(es++[(⟨(i:Int),x.Event,(0:Int)⟩ : Qb)]).length<=32*i+(done++[x]).length:=by have:=d.ln;simp;omega
 constructor
 ·intro I;obtain⟨g,S,N⟩:=(d.fc.has _).1 I;obtain⟨k,T,ek⟩:=Zao S;have A : b[k]? = some g:=by grind
  have w:=d.nm k g A;rw[N] at w;rw[w];refine⟨d.fc,d.nm,d.f0,t _,fun j l n r o s=>?_,fun y m=>?_,by simpa using v⟩
  ·by_cases p:j<i\/j=i/\n ∈ done
   ·obtain⟨k',g',Q,P,O⟩:=d.e3 j l n r o p
    grind
   grind
  ·rcases Zp.1 m with m|m
   ·obtain⟨j,l,n,k',g',r,o,s,p,B,L⟩:=d.e4 y m
    grind
   ·simp only[Zal] at m;exact⟨i,f,x,k,g,J,E,m,A,N,.inr ⟨rfl,by simp⟩⟩
 ·intro I;have H:∀(j:Nat)(l : Int),b[j]? = some l->ati cl l ≠ ati cl x.To:=fun j l q e=>by
   have:=(d.fc.has (ati cl x.To)).2 ⟨l,Zn q,e⟩
   grind
  have u:(b++[x.To])[b.length]? = some x.To:=by simp
  refine⟨d.fc.add ⟨F.1,by have:=h.st;omega⟩ I _,fun j l q=>?_,Qta d.f0,t _,fun j l n r o s=>?_,fun y m=>?_,by simpa using v⟩
  ·rw[Q2a];rcases Q2b q with q|⟨r,o⟩
   ·rw[if_neg (H j l q)];exact d.nm j l q
   grind
  ·have U:i<b.length:=(Zm.1 J).1;have C : b[j]? = some l:=by
    grind
   by_cases p:j<i\/j=i/\n ∈ done
   ·obtain⟨k',g',Q,P,O⟩:=d.e3 j l n C o p
    grind
   grind
  ·rcases Zp.1 m with m|m
   ·obtain⟨j,l,n,k',g',r,o,s,p,B,L⟩:=d.e4 y m;exact⟨j,l,n,k',g',Qta r,o,s,Qta p,B,by grind⟩
   ·simp only[Zal] at m;exact⟨i,f,x,b.length,x.To,Qta J,E,m,u,rfl,.inr ⟨rfl,by simp⟩⟩
theorem MrgI.next{i:Nat}{b:List Int}{es:List Qb}{c:List (Int×Int)}{f:Int}(s:b[i]? = some f)(d:MrgI a cl i (outP a f) b es c):MrgI a cl (i+1) [] b es c:=by
 refine⟨d.fc,d.nm,d.f0,d.so,fun j m x l e n=>?_,fun y o=>?_,by have:=d.ln;have:=Qbjy h f;simp;omega⟩
 ·refine d.e3 j m x l e ?_
  grind
 ·obtain⟨j,m,x,k,g,l,e,n,r,q,p⟩:=d.e4 y o
  grind
end
structure Along(m a:Qa)(R:Int->Int->Prop):Prop where
 z:0<a.zF->R 0 0
 st:∀k s,R k s->0<=k/\k<m.zF/\0<=s/\s<a.zF
 stp:∀k s,R k s->∀e,(Q1 m k e = -1/\Q1 a s e = -1)\/R (Q1 m k e) (Q1 a s e)
 fn:∀k k' s,R k s->R k' s->k=k'
structure MksM(i:Nat)(ms:List Int):Prop where
 rg:∀x∈ms,0<=x/\x<i
 so:ms.Pairwise (· < ·)
theorem MksM.len{i:Nat}{ms:List Int}(h:MksM i ms):ms.length<=i:=by
 have c:ms.Nodup:=h.so.imp fun q=>by omega
 have:=Qvl c (m:=(List.range i).map fun j:Nat=>(j:Int)) fun v b=>Zl.2 ⟨v.toNat,List.mem_range.2 (by have:=h.rg v b;omega),by have:=h.rg v b;omega⟩;simpa using this
theorem MksM.add{i:Nat}{ms:List Int}(h:MksM i ms):MksM (i+1) (ms++[(i:Int)]):=by
 refine⟨fun x b=>?_,Zbb.2 ⟨h.so,List.pairwise_singleton _ _,fun x b y c=>?_⟩⟩
 ·rcases Zp.1 b with b|b
  ·have:=h.rg x b;omega
  ·simp at b;omega
 ·simp at c;have:=h.rg x b;omega
theorem MksM.up{i:Nat}{ms:List Int}(h:MksM i ms):MksM (i+1) ms:=⟨fun x b=>by have:=h.rg x b;omega,h.so⟩
theorem Qbjz{a:Qa}(h:Right a){cl:List Int}(hcl:cl.length=a.zF.toNat)(hr:∀j:Nat,j<a.zF.toNat->0<=ati cl j/\ati cl j<a.zF.toNat)(hc:Cons a cl):
  ∃m R,Qm2 a cl=some m/\Right m/\m.zB=a.zB/\(m.zF=0↔a.zF=0)/\m.zF<=a.zF/\Along m a R:=by
 unfold Qm2 Qgd;have hst:=h.st;have hsm:=h.small;rw[Qvm (by grind [lim]),Za];by_cases h0:a.zF=0
 ·rw[if_pos (by simp[h0])];exact⟨_,fun _ _=>False,rfl,⟨h.al0,h.al,⟨by simp,by simp⟩,by simp,.nil,by simp,.nil⟩,rfl,by simp[h0],by simp[h0],⟨fun E=>by omega,fun _ _ E=>E.elim,fun _ _ E=>E.elim,fun _ _ _ E=>E.elim⟩⟩
 rw[if_neg (by simpa using h0)];obtain⟨b,hb,hbl⟩:=Qbfe h;rw[Qbbz h,Za,hb,Za];have hpos:0<a.zF.toNat:=by omega
 have hc0:getO cl 0=some (ati cl 0):=by
  rw[show (0:Int)=((0:Nat):Int) from rfl,Qy (by omega:0<cl.length)]
  simp_all[ati,at0,Zbt]
 rw[hc0,Za];obtain⟨fuel,hfu,hge⟩ : ∃f,Q0=f/\1099511627776<=f:=⟨_,rfl,Ze _⟩;rw[hfu];have hI0:MrgI a cl 0 [] [0] [] (setM ([]:List (Int×Int)) (ati cl 0) 0):=by
  refine⟨⟨fun f hf=>by grind,by simp,fun v=>?_⟩,fun j f hj=>?_,rfl,.nil,fun j f x _ _ q=>?_,fun y N=>by simp at N,by simp⟩
  ·simp only[setM,hasM,Zae,List.any_nil,Bool.or_false,beq_iff_eq]
   grind
  ·have:j=0/\f=0:=by
    grind
   obtain⟨rfl,rfl⟩:=this;simp[setM,getM]
  grind
 have hEl:((upto a.zF).map (outP a)).length=a.zF.toNat:=by simp[Qpy]
 have W:∀f:Int,0<=f->f<a.zF.toNat->getO ((upto a.zF).map (outP a)) f=some (outP a f):=fun f f0 f1=>by
  obtain⟨n,rfl⟩ : ∃n:Nat,f=(n:Int):=⟨f.toNat,by omega⟩
  grind [Qy,Q4r]
 have hcv:∀x:Int,0<=x->x<a.zF->getO cl x=some (ati cl x):=fun x x0 x1=>Qbn5 x0 (by omega);refine Qyc (P:=fun r=>∃(d ms:List Int)(es:List Qb)(c:List (Int×Int)),r=(d,[],[],[],ms,es,c)/\MrgI a cl d.length [] d es c/\MksM d.length ms) (Q:=fun r=>∃m R,r=some m/\Right m/\m.zB=a.zB/\(m.zF=0↔a.zF=0)/\m.zF<=a.zF/\Along m a R) ?_ ?_
 ·refine Qb1 (fun x:List Int×Int×List Int×List Int×List Qb×List Int×List Qb×List (Int×Int)=>∃(i:Nat)(d ms:List Int)(es:List Qb)(c:List (Int×Int)),x=(d,(i:Int),[],[],[],ms,es,c)/\i<=d.length/\MrgI a cl i [] d es c/\MksM i ms) (fun x=>a.zF.toNat-x.2.1.toNat) (fun _ r=>∃v,r=some v/\∃(d ms:List Int)(es:List Qb)(c:List (Int×Int)),v=(d,[],[],[],ms,es,c)/\MrgI a cl d.length [] d es c/\MksM d.length ms) (fun k x w ih=>?_) fuel _ ⟨0,[0],[],[],_,rfl,by simp,hI0,⟨by simp,.nil⟩⟩ (by dsimp only;omega);obtain⟨i,d,ms,es,c,rfl,hi,t,O⟩:=w;dsimp only;have hfl:=t.fc.len hr;by_cases J:i<d.length
  ·have hf:d[i]? = some d[i]:=Zj J;have C:=t.fc.rg _ (Zr J);have hgo:getO d (i:Int)=some d[i]:=Qy J;generalize d[i]=f at hf C hgo;have hbf:∃v,getO b f=some v:=by
    obtain⟨n,rfl⟩ : ∃n:Nat,f=(n:Int):=⟨f.toNat,by omega⟩;exact⟨_,Qy (by omega)⟩
   obtain⟨v,hv⟩:=hbf;rw[if_pos (by omega),hgo,Za,hv,Za];have hms:=O.len;have hmk:∃u,(if v=true then (appO ms [(i:Int)]).bind fun x27=>some x27 else some ms)=some u/\MksM (i+1) u:=by
    cases v with
    |true=>exact⟨_,by rw[if_pos rfl,Qbm (by grind [List.length_cons,List.length_nil,lim]),Za],O.add⟩
    |false=>exact⟨ms,rfl,O.up⟩
   obtain⟨u,hm1,hm2⟩:=hmk;rw[hm1,Za,Za,W f C.1 C.2,Za];have hol:=Qbjy h f;refine Qyc (P:=fun r=>∃(l : List Int)(o : List Qb)(A : List (Int×Int)),r=(l,u,o,A)/\MrgI a cl i (outP a f) l o A/\l[i]? = some f) (Q:=fun r=>∃v,r=some v/\∃(d ms:List Int)(es:List Qb)(c:List (Int×Int)),v=(d,[],[],[],ms,es,c)/\MrgI a cl d.length [] d es c/\MksM d.length ms) ?_ ?_
   ·refine Qb1 (fun x:List Int×Int×List Qb×List (Int×Int)=>∃(j:Nat)(l : List Int)(o : List Qb)(A : List (Int×Int)),x=(l,(j:Int),o,A)/\j<=(outP a f).length/\MrgI a cl i ((outP a f).take j) l o A/\l[i]? = some f) (fun x=>(outP a f).length-x.2.1.toNat) (fun _ r=>∃v,r=some v/\∃(l : List Int)(o : List Qb)(A : List (Int×Int)),v=(l,u,o,A)/\MrgI a cl i (outP a f) l o A/\l[i]? = some f) (fun k2 x w S=>?_) fuel _ ⟨0,d,es,c,rfl,by omega,by simpa using t,hf⟩ (by dsimp only;omega);obtain⟨j,fd,ed,cd,rfl,hj,hJ,M⟩:=w;dsimp only;by_cases L:j<(outP a f).length
    ·have w:=Zr L;have I:=Qbb5 h w;have X:∀z∈(outP a f).take j,z.Event<((outP a f)[j]).Event:=fun z U=>by
      obtain⟨n,hn,rfl⟩:=Zao U
      grind [List.length_take,List.pairwise_iff_getElem,Qbpe]
     have p:=hJ.add h M w X;have htk:(outP a f).take (j+1)=(outP a f).take j++[(outP a f)[j]]:=Zbj L;have hfdl:=hJ.fc.len hr;have hel0:((outP a f).take j).length<=32:=by grind
     have hel:ed.length<=200000:=by have:=hJ.ln;omega
     have F : getO (outP a f) (j:Int)=some (outP a f)[j]:=Qy L;rw[<-htk] at p;generalize (outP a f)[j]=x at w I p F;rw[if_pos (by omega),F,Za,hcv x.To I.1 I.2.1,Za];cases hh:hasM cd (ati cl x.To) with
     |true =>
      rw[if_pos rfl,Za,Qbm (by grind [List.length_cons,List.length_nil,lim]),Za,Qx (by omega)];exact S _ ⟨j+1,_,_,_,rfl,by omega,p.1 hh,M⟩ (by dsimp only;omega)
     |false =>
      rw[if_neg (by simp),Za,Qbm (by grind [List.length_cons,List.length_nil,lim]),Za,Za,Qbm (by grind [List.length_cons,List.length_nil,lim]),Za,Qx (by omega)];exact S _ ⟨j+1,_,_,_,rfl,by omega,p.2 hh,Qta M⟩ (by dsimp only;omega)
    grind
   ·rintro _ ⟨l,o,A,rfl,hI',hf'⟩;dsimp only;rw[Qx (by omega)];exact ih _ ⟨i+1,l,u,o,A,rfl,by grind,hI'.next h hf',hm2⟩ (by dsimp only;omega)
  grind
 ·rintro _ ⟨d,ms,es,c,rfl,t,O⟩;have hfl:=t.fc.len hr;have hpl:0<d.length:=(Zm.1 t.f0).1;have hR:Right ⟨a.zB,(d.length:Int),ms,es⟩:=by
   refine⟨h.al0,h.al,⟨by dsimp only;omega,by dsimp only;omega⟩,fun x w=>?_,O.so,fun y N=>?_,t.so⟩
   ·have:=O.rg x w;dsimp only;omega
   ·obtain⟨j,f,x,k,g,H,q2,rfl,q4,q5,q6⟩:=t.e4 y N
    grind [List.getElem?_eq_some_iff,Qbb5]
  refine⟨_,fun k s=>∃(n:Nat)(f:Int),k=(n:Int)/\d[n]? = some f/\0<=s/\s<a.zF/\ati cl s=ati cl f,rfl,hR,rfl,?_,?_,?_,?_,?_,?_⟩
  ·dsimp only;omega
  ·dsimp only;omega
  ·intro E;exact⟨0,0,rfl,t.f0,Zbg _,E,rfl⟩
  ·grind
  ·rintro k s ⟨n,f,rfl,H,q2,q3,q4⟩ e;have C:=t.fc.rg f (Zn H);have hcs:=hc s.toNat f.toNat (by omega) (by omega) (by grind);rw[show ((s.toNat:Nat):Int)=s from by omega,show ((f.toNat:Nat):Int)=f from by omega] at hcs;rcases Qb0 h s e with hs|hs
   ·refine .inl ⟨?_,hs⟩;rcases Qb0 hR (n:Int) e with ht|ht
    ·exact ht
    ·exfalso;obtain⟨y,N,hye⟩:=(Qmb hR).1 ht.1;have hyf:=Qbb5 hR N;obtain⟨j,f',x,k',g,p1,p2,rfl,p4,p5,p6⟩:=t.e4 y (Zq.1 N).1;have hjn:j=n:=by grind
     subst hjn;rw[H] at p1;cases p1;have:edC cl x∈(outP a s).map (edC cl):=by grind
     obtain⟨z,U,B⟩:=Zl.1 this;have T:z.Event=x.Event:=congrArg Prod.fst B;have:=(Qmb h (s:=s) (e:=e)).2 ⟨z,U,by rw[T];exact hye⟩;omega
   ·obtain⟨x,w,hxe⟩:=(Qmb h).1 hs.1;have hxs:=Qou h w;rw[hxe] at hxs;have:edC cl x∈(outP a f).map (edC cl):=by grind
    obtain⟨z,U,B⟩:=Zl.1 this;have T:z.Event=x.Event:=congrArg Prod.fst B;have hz3:ati cl z.To=ati cl x.To:=congrArg Prod.snd B;obtain⟨k',g,p1,p2,p3⟩:=t.e3 n f z H U (.inl ((Zm.1 H).1));have hst2:=Qou hR (s:=(n:Int)) (x:=⟨(n:Int),z.Event,(k' : Int)⟩) (Zq.2 ⟨p3,by simp⟩)
    grind
  ·rintro k k' s ⟨n,f,rfl,H,_,_,q4⟩ ⟨n',f',rfl,r1,_,_,r4⟩;have a1:=t.nm n f H;have a2:=t.nm n' f' r1
   grind
theorem Qbdn{a:Qa}(h:Right a):∃m R,Qc3 a=some (m,0)/\Right m/\m.zB=a.zB/\(m.zF=0↔a.zF=0)/\m.zF<=a.zF/\Along m a R:=by
 obtain⟨cl,d,e2,e3,e4⟩:=Qbb0 h;obtain⟨m,R,c,b⟩:=Qbjz h e2 e3 e4;refine⟨m,R,?_,b⟩
 simp_all[Qc3,Qbc,Qvj,Za,if_neg]
end Go.Abs
end
section
namespace Go.Abs
open Go
theorem Qbdo{l:List Qa}(h:Parts l){t:List Int}(a:InT l t):keyI t=some (keyB t)/\Q9x t:=by
 have b:Q9x t:=fun x d=>by
  obtain⟨i,c,rfl⟩:=Zao d;have:=a.get i (by rw[<-a.len];exact c) c;have:=h.s _ (Zr (show i<l.length by grind));omega
 have e:=h.n;have f:=a.len;refine⟨?_,b⟩;unfold keyI;rw[if_pos ⟨by unfold lim;omega,b⟩]
theorem InT.zero:∀{l:List Qa},(∀a∈l,Right a)->l.any (fun a=>a.zF==0)=false->InT l (List.replicate l.length 0)
 |[],_,_=>trivial
 |a::l,hr,h=>by
  simp only[Zae,Zbo,beq_eq_false_iff_ne] at h;have:=(hr a (by simp)).st;exact⟨⟨Zbg _,by omega⟩,InT.zero (fun b hb=>hr b (by simp[hb])) h.2⟩
def bld0(l:List Qa)(R:List Int):List (List Int)×List Int×List Qb :=
 bldM (Qul l) (mkT l) R 4001 0 [] ([List.replicate l.length 0],[],setM ([]:List (ByteArray×Int)) (keyB (List.replicate l.length 0)) 0)
section
variable{l:List Qa}(h:Parts l){R:List Int}(hR:EvsU l R)
include h
theorem Q6r(e:l.any (fun a=>a.zF==0)=false):FndT R (InT l) 0 ([List.replicate l.length 0],[],setM ([]:List (ByteArray×Int)) (keyB (List.replicate l.length 0)) 0):=by
 have c:=InT.zero h.r e;refine⟨by simp,fun x b=>?_,?_,.nil,fun x b=>by simp at b⟩
 ·grind
 ·have d:MapK ([]:List (ByteArray×Int)) []:=fun r _=>⟨by simp[hasM],fun h=>by simp at h⟩;exact d.ins (by simp) (Qbdo h c).2
include hR
theorem Qbgs(c:l.any (fun a=>a.zF==0)=false):Right ⟨R,((bld0 l R).1.length:Int),(bld0 l R).2.1,(bld0 l R).2.2⟩/\(∀x∈(bld0 l R).1,InT l x)/\(bld0 l R).1.length<=4000/\[List.replicate l.length 0] <+: (bld0 l R).1 :=
 Q8p (h.dom hR) (mkT l) (Q6r h c) ⟨fun x b=>by simp at b,.nil⟩ (by simp) (by omega)
theorem Qbj0(hne:l≠[])(Q:l.any (fun a=>a.zF==0)=false)(hE:Qgn l=some R):Qbt l=some (⟨R,((bld0 l R).1.length:Int),(bld0 l R).2.1,(bld0 l R).2.2⟩,(bld0 l R).1,0):=by
 unfold Qbt Qbj;obtain⟨fuel,O,N⟩ : ∃f,Q0=f/\1099511627776<=f:=⟨_,rfl,Ze _⟩;have S:=InT.zero h.r Q;have A:=h.dom hR;have hRl:=Qbfi hR.so (hR.rg h);rw[O,Qyb h,Za,if_neg (by simp),Qbfn h hE,Za,Q8q h,Q,if_neg (by simp),Za];dsimp only;rw[if_pos rfl,(Qbdo h S).1,Za];have T:=S.len;refine Q12 (fun x:List (List Int)×Int×List Int×List Qb×List (ByteArray×Int)=>∃i:Nat,x.2.1=i/\i<=x.1.length/\FndT R (InT l) i (x.1,x.2.2.2.1,x.2.2.2.2)/\x.2.2.1.length<=i/\x.2.2.2.1.length<=32*i /\
  bldM (Qul l) (mkT l) R (4001-i) i x.2.2.1 (x.1,x.2.2.2.1,x.2.2.2.2)=bld0 l R) (fun x=>4001-x.2.1.toNat) _ ⟨0,rfl,by simp,Q6r h Q,by simp,by simp,rfl⟩ (by dsimp only;omega) ?_
 rintro k ⟨st,x,ms,es,c⟩ ⟨i,o,hi,hf,hms,hes,hB⟩ ih;dsimp only at o hi hf hms hes hB ih |-;subst o;have hN:st.length<=4000:=hf.len A;by_cases m:i<st.length
 ·have d:InT l st[i]:=hf.su _ (Zr m);have z:st[i]? = some st[i]:=Zj m;generalize E:st[i]=s at d z;rw[if_pos (by omega),Qy m,Za,E,Qbjx h d,Za];obtain⟨f,y⟩ : ∃f,4001-i=f+1:=⟨4000-i,by omega⟩;rw[y,bldM] at hB;dsimp only at hB;rw[z] at hB;dsimp only at hB;have g:(if mkT l s=true then (appO ms [(i:Int)]).bind fun B=>some B else some ms)=some (if mkT l s then ms++[(i:Int)] else ms):=by
   cases mkT l s with
   |true=>rw[if_pos rfl,if_pos rfl,Qbm (by grind [List.length_cons,List.length_nil,lim]),Za]
   |false=>rfl
  rw[g,Za];obtain⟨X,W,U⟩:=hf.row A (i:=i) d;have w:(if mkT l s=true then ms++[(i:Int)] else ms).length<=i+1:=by
   grind
  generalize (if mkT l s=true then ms++[(i:Int)] else ms)=ms' at hB w;have q:s≠[]:=by
   intro e;have:=d.len
   grind
  have P:∀(n:Nat)(p:TS),n<=R.length->RowT R (InT l) i (R.take n) (st,es,c) p->p.1.length<=4000:=fun n p _ hp=>Zac (A.bd _ hp.nd hp.su) (Ze _);refine (Q16 (l:=R) (fun j(p:TS)=>(p.1,j,p.2.1,p.2.2)) (rowM (Qul l) i s) (fun n p=>n<=R.length/\RowT R (InT l) i (R.take n) (st,es,c) p) (fun p=>k (p.1,(IntKind.wrap .i64 ((i:Int)+1)),ms',p.2.1,p.2.2)) (by unfold big;omega) N (fun k2 n p v hp=>?_) (fun n p v hp=>?_) (fun k2 p hp=>?_) (s0:=(st,es,c)) ⟨Zw _,hf.nd,hf.su,hf.mp,Zbp _,hf.ed,fun x o=>by
   obtain⟨a1,a2,a3,a4,a5⟩:=hf.er x o
   grind,by simp⟩).trans ?_
  ·obtain⟨u,hp⟩:=hp;have hpl:=P n p u hp;have F:=hp.ln;have htl:(R.take n).length<=32:=by grind
   dsimp only at F;dsimp only;rw[if_pos (by omega)];unfold letJ;dsimp only;have M:getO p.1 (i:Int)=some s:=by
    have:=Qg2 hp.pre z
    grind [Qy,List.getElem?_eq_some_iff,List.getElem?_eq_getElem]
   rw[Qy v,Za,M,Za,Qbl1 h d q,Za];unfold rowM;cases hst:Qul l s R[n] with
   |none=>rfl
   |some t =>
    have ht:=Q90 h.r d hst;obtain⟨L,J⟩:=Qbdo h ht;obtain⟨H,g⟩:=hp.mp t J;dsimp only;rw[if_pos rfl,L,Za,H];by_cases b:t∈p.1
    ·rw[decide_eq_true b,if_pos rfl,if_pos b,g b,Qbm (by grind [List.length_cons,List.length_nil,lim]),Za]
    ·rw[decide_eq_false b,if_neg (by simp),if_neg b,if_neg (by grind),Za,Qbm (by grind [List.length_cons,List.length_nil,lim]),Za,Qbm (by grind [List.length_cons,List.length_nil,lim]),Za]
  ·obtain⟨u,hp⟩:=hp;refine⟨v,?_⟩;have C:R.take (n+1)=R.take n++[R[n]]:=Zbj v;rw[C];refine hp.step A d (Zr v) fun x o=>?_;have hso:=hR.so;obtain⟨j,hj,rfl⟩:=Zao o
   grind [List.length_take,List.pairwise_iff_getElem]
  ·grind
  ·rw[Qx (by omega)];have I:=W.length_le;dsimp only at I U;refine ih _ ⟨i+1,rfl,by dsimp only;omega,X,w,?_,?_⟩ (by dsimp only;omega)
   all_goals grind
 ·rw[if_neg (by omega)];have z:st[i]? = none:=List.getElem?_eq_none (by omega);obtain⟨f,y⟩ : ∃f,4001-i=f+1:=⟨4000-i,by omega⟩
  grind [bldM]
omit hR in
theorem Qbj1(c:l.any (fun a=>a.zF==0)=true)(b:Qgn l=some R):Qbt l=some (⟨R,0,[],[]⟩,[],0):=by
 unfold Qbt Qbj;rw[Qyb h,Za,if_neg (by simp),Qbfn h b,Za,Q8q h,c,if_pos rfl,Za]
 rfl
end
structure Prd(l:List Qa)(A:Qa)(T:List (List Int)):Prop where
 r:Right A
 st:A.zF=T.length
 t:∀x∈T,InT l x
 n:T.length<=4000
 ev:EvsU l A.zB
end Go.Abs
end
section
namespace Go.Abs
open Go
def runP(a:Qa):Int->Nat->List Int->Int×Int
 |s,n,[]=>(s,n)
 |s,n,e::w=>if 0<=Q1 a s e then runP a (Q1 a s e) (n+1) w else (s,n)
section
variable{a:Qa}(h:Right a)
include h
theorem Qbj2{s:Int}{w:List Int}(e:w.length<big):Qi0 a s w=some (runP a s 0 w):=by
 have g:=h.small.1;have hb:w.length<1000000000000:=e;unfold Qi0 Qea;obtain⟨fuel,b,i⟩ : ∃f,Q0=f/\1099511627776<=f:=⟨_,rfl,Ze _⟩;rw[b];refine (Qhx (len:=w.length) (fun n(s:Int)=>(s,(n:Int))) (fun n s=>True) (fun n s=>some (runP a s n (w.drop n))) ?_ ?_ fuel 0 s (Zw _) (by omega) trivial).trans (by simp)
 ·intro k n s c _ d;dsimp only;rw[if_pos (by omega),Qy c];simp only[Za];rw[Q3g g];simp only[Za];rw[Zai c,runP];by_cases hr:0<=Q1 a s w[n]
  ·rw[if_neg (by omega),if_pos hr,Qx (by omega)];exact d _ trivial
  grind
 simp_all[if_neg,runP]
omit h in
theorem Q6s{w:List Int}{p:Int->Bool}{f:Int->Option Bool}(o:∀x,f x=some (p x))(l:w.length<big):Qf5 w f=some (w.any p):=by
 have hb:w.length<1000000000000:=l;unfold Qf5 Qcj Qjn Qdb;obtain⟨fuel,g,m⟩ : ∃f,Q0=f/\1099511627776<=f:=⟨_,rfl,Ze _⟩;rw[g];have:=Qlb (F:=fun(e:Int->Option Int)(b:Int)=>(if (b<(w.length:Int)) then ((getO w b).bind fun d=>((f d).bind fun c=>(if c then some b else e (IntKind.wrap .i64 (b+1))))) else some (-1))) (len:=w.length) (fuel:=fuel)
  (fun n=>some (if (w.drop n).any p then ((n+(w.drop n).findIdx p:Nat):Int) else -1)) (by omega) (by
   intro k n i j;rw[if_pos (by omega),Qy i,Qx (by omega),j];simp only[Za,o];rw[Zai i];cases hp:p w[n] with
   |true=>simp only[Zae,hp,Bool.true_or,if_true,List.findIdx_cons,cond_true,Nat.add_zero]
   |false =>
    simp only[Zae,hp,Bool.false_or,List.findIdx_cons,cond_false,Zg,if_false];rw[show n+1+(w.drop (n+1)).findIdx p=n+((w.drop (n+1)).findIdx p+1) from by omega]) (by intro k;simp)
 rw[this];simp only[Za,List.drop_zero,Zz];cases w.any p<;>simp
def genP(a:Qa)(w:List Int):Bool:=decide (0<a.zF)&&(runP a 0 0 w).2==(w.length:Int)
theorem Qyd{w:List Int}(c:w.length<big):Qf7 a w=some (genP a w):=by
 have b:=h.st;unfold Qf7 Qb7
 grind [Qbj2,genP]
end
end Go.Abs
end
section
namespace Go.Abs
open Go
section
variable{a b:Qa}{φ:Int->Int}(ha:Right a)(hb:Right b)(h:Like a b φ)
include ha hb h
theorem Qbb6:∀(w:List Int)(s:Int)(n:Nat),s∈Qd1 a->runP b (φ s) n w=(φ (runP a s n w).1,(runP a s n w).2)/\(runP a s n w).1∈Qd1 a
 |[],s,n,c=>⟨rfl,c⟩
 |e::w,s,n,c=>by
  simp only[runP];rw[Q8l ha h c];by_cases f:0<=Q1 a s e
  ·have d:=Q8m ha c f;have hr:=(Qbdk ha hb h _ d).1
   simp_all[if_pos,Qbb6]
  grind
theorem Qbgt(c:0<a.zF):0∈Qd1 a:=by
 have:=(Qhn ha).2.1;rw[if_pos c] at this;exact this.subset (by simp)
theorem Qbj3(w:List Int):genP b w=genP a w:=by
 unfold genP;by_cases c:0<a.zF
 ·have d:=h.st.2 c;have:=(Qbb6 ha hb h w 0 0 (Qbgt ha hb h c)).1;rw[h.zero c] at this;simp[c,d,this]
 ·have d:¬0<b.zF:=fun e=>c (h.st.1 e);simp[c,d]
end
theorem Qbj4{a:Qa}(ha:Right a)(w:List Int):genP (Qfr a) w=genP a w:=Qbj3 ha (Qhy ha) (Q6o ha) w
theorem Qbb7{a:Qa}{F:List Int}:∀(l:List Int)(i:Nat),l.Nodup->(Qlc a F i l).length<=(a.zD.filter fun x=>decide (x.From∈l)).length
 |[],i,_=>by simp[Qlc]
 |s::l,i,c=>by
  have c:=List.nodup_cons.1 c;simp only[Qlc,Zx];have d:=Qbb7 (a:=a) (F:=F) l (i+1) c.2;have f:(rowP a F i s).length=(a.zD.filter fun x=>x.From==s).length:=by simp[rowP,outP]
  have e:a.zD.filter (fun x=>decide (x.From∈s::l))=a.zD.filter (fun x=>x.From==s||decide (x.From∈l)):=by
   grind
  rw[f,e];have g:∀L:List Qb,(L.filter (fun x=>x.From==s)).length+(L.filter fun x=>decide (x.From∈l)).length=(L.filter (fun x=>x.From==s||decide (x.From∈l))).length:=by
   intro L
   induction L with
   |nil=>simp
   |cons x L d =>
    grind
  grind
theorem Qbgu{a:Qa}(ha:Right a):(Qfr a).zF<=a.zF/\(Qfr a).zD.length<=a.zD.length:=by
 have c:=(Qhn ha).1;have:=c.len;have d:=ha.st;refine⟨by simp only[Qfr];omega,?_⟩;exact Zac (Qbb7 _ _ c.nd) (Zax _ _)
end Go.Abs
end
section
namespace Go.Abs
open Go
def Q91(a:Qa)(s:Int):List Qb:=a.zB.map fun e=>⟨s,e,if 0<=Q1 a s e then Q1 a s e else a.zF⟩
def Qbl2(a:Qa):Nat->List Qb
 |0=>[]
 |n+1=>Qbl2 a n++Q91 a (n:Int)
theorem Qbj5{a:Qa}:∀n,(Qbl2 a n).length=n*a.zB.length
 |0=>by simp[Qbl2]
 |n+1=>by simp[Qbl2,Qbj5 n,Q91,Nat.succ_mul]
theorem Qbod{a:Qa}{s:Int}{x:Qb}:x∈Q91 a s↔x.From=s/\x.Event∈a.zB/\x.To=if 0<=Q1 a s x.Event then Q1 a s x.Event else a.zF:=by
 unfold Q91;simp only[Zl];constructor
 ·grind
 ·rintro⟨d,b,c⟩;exact⟨x.Event,b,by cases x;simp_all⟩
section
variable{a:Qa}(h:Right a)
include h
end
def Qum(n:Nat):List Int:=(List.range n).map fun i:Nat=>(i:Int)
theorem Q0v(n:Nat):Qum (n+1)=Qum n++[(n:Int)]:=by simp[Qum,List.range_succ]
theorem Q8r(n:Nat):(Qum n).length=n:=by simp[Qum]
theorem Q8s{n:Nat}{x:Int}:x∈Qum n↔0<=x/\x<n:=by
 unfold Qum;simp only[Zl,List.mem_range];constructor
 ·grind
 ·rintro⟨c,b⟩;exact⟨x.toNat,by omega,by omega⟩
theorem Q2c:∀n,(Qum n).Pairwise (· < ·)
 |0=>.nil
 |n+1=>by
  rw[Q0v,Zbb];refine⟨Q2c n,by simp,fun x c y b=>?_⟩;have:=Q8s.1 c;simp at b;omega
def Qn2(a:Qa):Qa:=⟨a.zB,a.zF,Qum a.zF.toNat,a.zD⟩
theorem Qpz{a:Qa}(h:Right a):Right (Qn2 a):=
 ⟨h.al0,h.al,h.st,fun x b=>by grind [Q8s,Qn2],Q2c _,h.ed0,h.ed⟩
theorem Qbj6{a:Qa}(h:Right a):Qjt a=some (Qn2 (Qfr a),0):=by
 have hr:=Qhy h;have i:=hr.st;unfold Qjt Qem;obtain⟨fuel,j,o⟩ : ∃f,Q0=f/\1099511627776<=f:=⟨_,rfl,Ze _⟩;rw[j,Qvj h,Za,if_neg (by simp),Q7d h,Za];generalize Qfr a=c at hr i;have d:=Qhx (len:=c.zF.toNat) (F:=(fun(g:Int×List Int×List Int×List Qb×List Int->Option (List Int×List Int×List Qb×List Int))((x7,c8,c9,c10,r11):Int×(List Int)×(List Int)×(List Qb)×(List Int))=>(if (x7<c.zF) then ((appO r11 [x7]).bind fun e=>g ((IntKind.wrap .i64 (x7+1)),c8,c9,c10,e)) else some (c8,c9,c10,r11))))
  (fun n(b:List Int)=>((n:Int),([]:List Int),([]:List Int),([]:List Qb),b)) (fun n b=>b=Qum n) (fun n b=>some ([],[],[],Qum c.zF.toNat)) (by
   intro k n b p m l;subst m;dsimp only;rw[if_pos (by omega),Qbm (by grind [List.length_cons,List.length_nil,Q8r,lim]),Za,Qx (by omega)];exact l _ (Q0v n).symm) (by
   grind) fuel 0 [] (Zw _) (by omega) rfl
 refine (congrArg (fun w=>Option.bind w _) d).trans ?_
 rfl
end Go.Abs
end
section
namespace Go.Abs
open Go
def Q92(s:Nat):List Int:=((List.range 5).filter fun i=>s.testBit i).map fun i:Nat=>(i:Int)
def evT(s:Nat):Bool:=match Qdp (s:Int) with
 |some l=>l==Q92 s
 |none=>false
theorem Qboe:(List.range 256).all evT=true:=by kernel_rfl
theorem Qn3{s:Int}(c:0<=s)(b:s<256):Qdp s=some (Q92 s.toNat):=by
 have:=Zt.1 Qboe s.toNat (List.mem_range.2 (by omega));unfold evT at this
 grind
theorem Q2d{s:Nat}(h:s<256):Evs (Q92 s):=by
 obtain⟨l,c,b⟩:=Qbji (s:=(s:Int)) (by omega) (by omega)
 grind [Qn3]
theorem Qbb8{s t:Int}(k:0<=s)(j:s<256)(k0:0<=t)(f:t<256):∃n:Nat,andI .u8 s t=(n:Int)/\n<256/\∀x∈Q92 n,x∈Q92 s.toNat:=by
 obtain⟨a,rfl⟩ : ∃a:Nat,s=(a:Int):=⟨s.toNat,by omega⟩;obtain⟨b,rfl⟩ : ∃b:Nat,t=(b:Int):=⟨t.toNat,by omega⟩;have e:(BitVec.ofInt 8 (a:Int) &&& BitVec.ofInt 8 (b:Int)).toNat=a &&& b:=by
  grind
 have d:a &&& b<=a:=Nat.and_le_left;refine⟨a &&& b,?_,by omega,fun x c=>?_⟩
 ·unfold andI;show IntKind.wrap .u8 ((BitVec.ofInt 8 (a:Int) &&& BitVec.ofInt 8 (b:Int)).toNat:Int)=_
  grind [Qbjd]
 ·unfold Q92 at c |-;obtain⟨i,g,rfl⟩:=Zl.1 c
  grind
structure Qbj7(s:Qby):Prop where
 s0:0<=s.Sets.1/\s.Sets.1<256
 s1:0<=s.Sets.2.1/\s.Sets.2.1<256
 s2:0<=s.Sets.2.2.1/\s.Sets.2.2.1<256
 s3:0<=s.Sets.2.2.2.1/\s.Sets.2.2.2.1<256
 s4:0<=s.Sets.2.2.2.2/\s.Sets.2.2.2.2<256
 g0:Q6k s.Graphs.1
 g1:Q6k s.Graphs.2.1
 g2:Q6k s.Graphs.2.2
structure ProbW(p:Qf):Prop where
 pr:Right p.Plant
 ar:Right p.Ambient
 rr:Right p.Requirement
 p5:p.Plant.zF<=5
 a5:p.Ambient.zF<=5
 r5:p.Requirement.zF<=5
 sa:∀x∈p.Ambient.zB,x∈p.Plant.zB
 sr:∀x∈p.Requirement.zB,x∈p.Plant.zB
 pe:Evs p.Plant.zB
 oe:Evs p.Observable
 ce:Evs p.Controllable
theorem Qbj8{ev:List Int}(c:Evs ev){g:Qu}(f:Q6k g):∃m,Qgr ev g=some m/\Right m/\m.zF<=5/\m.zB=ev:=by
 obtain⟨m,d,b,i,e⟩:=Qbn4 c f;refine⟨Qfr m,i,Qhy d,?_,b⟩;have:=(Qhn d).1.len;show ((Qd1 m).length:Int)<=5;omega
theorem Qbdp{s n:Int}(h:0<=s/\s<256)(b:n=4\/n=2\/n=3):0<=s.tmod n/\s.tmod n<256:=by
 grind
theorem Qbj9{s:Qby}(h:Qbj7 s):∃p,Qh9 s=some p/\ProbW p:=by
 unfold Qh9 Qdu;obtain⟨fuel,H,hge⟩ : ∃f,Q0=f/\1099511627776<=f:=⟨_,rfl,Ze _⟩;rw[H,Qn3 h.s0.1 h.s0.2,Za];have d:∀g:Qu,Q6k g->0<=g.zF/\g.zF<256:=fun g hg=>hg.st;refine Qyc (P:=fun r:Int×Int×Int=>(0<=r.1/\r.1<256)/\(0<=r.2.1/\r.2.1<256)/\(0<=r.2.2/\r.2.2<256)) (Q:=fun r=>∃p,r=some p/\ProbW p) ?_ ?_
 ·refine Qb1 (fun x:Int×Int×Int×Int=>∃i:Nat,x.1=(i:Int)/\i<=3/\(0<=x.2.1/\x.2.1<256)/\(0<=x.2.2.1/\x.2.2.1<256)/\(0<=x.2.2.2/\x.2.2.2<256)) (fun x=>3-x.1.toNat) (fun _ r=>∃v:Int×Int×Int,r=some v/\(0<=v.1/\v.1<256)/\(0<=v.2.1/\v.2.1<256)/\(0<=v.2.2/\v.2.2<256)) (fun k x A X=>?_) fuel _ ⟨0,rfl,by omega,d _ h.g0,d _ h.g1,d _ h.g2⟩ (by dsimp only;omega);obtain⟨x,E,C,B⟩:=x;obtain⟨i,A,hi,m,l,j⟩:=A;dsimp only at A m l j;subst A;dsimp only;have key:∀t o n:Int,i<3->(0<=t/\t<256)->(0<=o/\o<256)->(0<=n/\n<256)->∃v:Int×Int×Int,k (IntKind.wrap .i64 ((i:Int)+1),t,o,n)=some v/\(0<=v.1/\v.1<256)/\(0<=v.2.1/\v.2.1<256)/\(0<=v.2.2/\v.2.2<256):=fun t o n hi' z y w=>by
   rw[Qx (by omega)];exact X _ ⟨i+1,rfl,by omega,z,y,w⟩ (by dsimp only;omega)
  by_cases c:i<3
  ·rw[if_pos (by omega)];have I:remO .u8 E (IntKind.wrap .u8 4)=some (E.tmod 4):=rfl;have L:remO .u8 C (IntKind.wrap .u8 2)=some (C.tmod 2):=rfl;have J:remO .u8 B (IntKind.wrap .u8 3)=some (B.tmod 3):=rfl;have R:=Qbdp m (.inl rfl);have T:=Qbdp l (.inr (.inl rfl));have S:=Qbdp j (.inr (.inr rfl));obtain e|e|e:i=0\/i=1\/i=2:=by omega
   ·subst e;have b:=key;simp only[Int.natCast_zero] at b |-;simp only[if_true,Za];by_cases q:E<250
    ·simp only[q,decide_true,if_true,I,Za];exact b _ _ _ c R l j
    ·simp only[q,decide_false,Zg,if_false,Za];exact b _ _ _ c m l j
   ·subst e;have b:=key;simp only[Int.natCast_one] at b |-;have u:¬((1:Int)=0):=by decide
    simp only[u,if_true,if_false,Za];by_cases q:C<250
    ·simp only[q,decide_true,if_true,L,u,if_false,Za];exact b _ _ _ c m T j
    ·simp only[q,decide_false,Zg,if_false,Za];exact b _ _ _ c m l j
   ·subst e;have b:=key;have e2:((2:Nat):Int)=2:=rfl;simp only[e2] at b |-;have u:¬((2:Int)=0):=by decide
    have F:¬((2:Int)=1):=by decide
    simp only[u,F,if_true,if_false,Za];by_cases q:B<250
    ·simp only[q,decide_true,if_true,J,u,F,if_false,Za];exact b _ _ _ c m l S
    ·simp only[q,decide_false,Zg,if_false,Za];exact b _ _ _ c m l j
  ·rw[if_neg (by omega)]
   grind
 ·rintro⟨t,o,n⟩ ⟨z,y,w⟩;dsimp only at z y w |-;obtain⟨u,e1,W,s1⟩:=Qbb8 h.s0.1 h.s0.2 h.s1.1 h.s1.2;obtain⟨F,e2,U,s2⟩:=Qbb8 h.s0.1 h.s0.2 h.s2.1 h.s2.2;have O:Evs (Q92 s.Sets.1.toNat):=Q2d (by have:=h.s0;omega);have N:Evs (Q92 s.Sets.2.2.2.1.toNat):=Q2d (by have:=h.s3;omega);have M:Evs (Q92 s.Sets.2.2.2.2.toNat):=Q2d (by have:=h.s4;omega);obtain⟨m0,a1,a2,a3,a4⟩:=Qbj8 O (g:=⟨t,s.Graphs.1.Marks,s.Graphs.1.To⟩) ⟨z,h.g0.to⟩;obtain⟨m1,b1,b2,b3,b4⟩:=Qbj8 (Q2d W) (g:=⟨o,s.Graphs.2.1.Marks,s.Graphs.2.1.To⟩) ⟨y,h.g1.to⟩;obtain⟨m2,c1,c2,c3,c4⟩:=Qbj8 (Q2d U) (g:=⟨n,s.Graphs.2.2.Marks,s.Graphs.2.2.To⟩) ⟨w,h.g2.to⟩;rw[a1,Za,e1,Qn3 (by omega) (by omega),Za,Zaw,b1,Za,e2,Qn3 (by omega) (by omega),Za,Zaw,c1,Za,Qn3 h.s3.1 h.s3.2,Za,Qn3 h.s4.1 h.s4.2,Za];exact⟨_,rfl,a2,b2,c2,a3,b3,c3,by grind,by grind,by grind,N,M⟩
def Few3(r:List Qa):Prop:=∀a∈r,Right a/\a.zF<=5
theorem Qbb9:∀{l:List Qa},Few3 l->(allT l).length<=5 ^ l.length
 |[],_=>by simp[allT]
 |a::l,h=>by
  rw[Q9z,List.foldr_cons,<-Q9z,Zs,Nat.pow_succ];have c:=Qbb9 (l:=l) fun b hb=>h b (List.mem_cons_of_mem _ hb);have d:=(h a (by simp)).2;have:a.zF.toNat<=5:=by omega
  calc a.zF.toNat*(allT l).length<=5*(allT l).length:=Zbi _ this
   _<=5*5 ^ l.length:=Nat.mul_le_mul_left _ c
   _=5 ^ l.length*5:=Nat.mul_comm _ _
theorem Qbka{l:List Qa}(h:Few3 l)(c:l.length<=3):Parts l:=by
 refine { r:=fun a ha=>(h a ha).1,s:=fun a ha=>Int.le_trans (h a ha).2 (by decide),n:=by omega,b:=Zac (Qbb9 h) ?_ };exact Zac (Nat.pow_le_pow_right (by decide) c) (by decide)
theorem Q8t{l:List Qa}{A:Qa}{T:List (List Int)}{e:Int}(h:Qbt l=some (A,T,e)):Qik l=some (A,e):=by
 unfold Qik Qcm;rw[h];rfl
theorem Q93{l m:List Int}(d:l.Pairwise (· < ·))(c:m.Pairwise (· < ·))(h:∀x,x∈l↔x∈m):l=m:=by
 refine List.Perm.eq_of_pairwise (le:=(· < ·)) (fun a b _ _ f e=>by omega) d c ?_;rw[List.perm_ext_iff_of_nodup (d.imp fun h=>by omega) (c.imp fun h=>by omega)];exact h
theorem Qbkb{p:Qa}(hp:Right p){l:List Qa}(c:∀a∈l,∀x∈a.zB,x∈p.zB){R:List Int}(b:EvsU (p::l) R):R=p.zB:=by
 refine Q93 b.so hp.al fun x=>?_;rw[b.me]
 grind
section
variable{a:Qa}(h:Right a)
include h
theorem Qbca:Qhd a=some (Qn2 (Qfr a)):=by
 have hr:=Qhy h;have i:=hr.st;unfold Qhd Qdc;obtain⟨fuel,j,o⟩ : ∃f,Q0=f/\1099511627776<=f:=⟨_,rfl,Ze _⟩;rw[j,Qx8 h,Za];generalize Qfr a=c at hr i;have d:=Qhx (len:=c.zF.toNat) (F:=(fun(g:Int×List Int×List Int×List Qb×List Int->Option (List Int×List Int×List Qb×List Int))((x7,c8,c9,c10,r11):Int×(List Int)×(List Int)×(List Qb)×(List Int))=>(if (x7<c.zF) then ((appO r11 [x7]).bind fun e=>g ((IntKind.wrap .i64 (x7+1)),c8,c9,c10,e)) else some (c8,c9,c10,r11))))
  (fun n(b:List Int)=>((n:Int),([]:List Int),([]:List Int),([]:List Qb),b)) (fun n b=>b=Qum n) (fun n b=>some ([],[],[],Qum c.zF.toNat)) (by
   intro k n b q m l;subst m;dsimp only;rw[if_pos (by omega),Qbm (by grind [List.length_cons,List.length_nil,Q8r,lim]),Za,Qx (by omega)];exact l _ (Q0v n).symm) (by
   grind) fuel 0 [] (Zw _) (by omega) rfl
 refine (congrArg (fun w=>Option.bind w _) d).trans ?_
 rfl
theorem Qbcb:∃m R,Qc3 (Qn2 (Qfr a))=some (m,0)/\Right m/\m.zB=a.zB/\(m.zF=0↔(Qfr a).zF=0)/\m.zF<=(Qfr a).zF/\Along m (Qn2 (Qfr a)) R :=
 Qbdn (Qpz (Qhy h))
theorem Qbdq{m:Qa}(b:Qc3 (Qn2 (Qfr a))=some (m,0)):Qhe a=some m:=by
 unfold Qhe Qjm;rw[Qbca h,Za,b];rfl
theorem Q30{m:Qa}(c:Qc3 (Qn2 (Qfr a))=some (m,0)):Qil a a.zB=some (m,0):=by
 unfold Qil Qcn;have b:=h.small;rw[Qbj6 h,Za];dsimp only;rw[if_neg (by simp),Qvm (by grind [lim]),Za];exact (congrArg (fun w=>Option.bind w _) c).trans rfl
end
section
variable{p:Qf}(h:ProbW p)
include h
theorem ProbW.small:Qbjf p:=⟨h.pr.small.1,h.ar.small.1,h.rr.small.1,by have:=h.oe.len;unfold big;omega,by have:=h.ce.len;unfold big;omega⟩
theorem ProbW.check:Qbbp p=0:=by
 unfold Qbbp;have e:Qib p.Plant=0:=Qrh.2 h.pr;have e2:Qib p.Ambient=0:=Qrh.2 h.ar;have e3:Qib p.Requirement=0:=Qrh.2 h.rr;have s1:inAl p.Ambient.zB p.Plant.zB=true:=decide_eq_true h.sa;have s2:inAl p.Requirement.zB p.Plant.zB=true:=decide_eq_true h.sr;have le:∀l,Evs l->Qg8 32 none l=0:=fun l b=>Qma.2 ⟨fun x d=>by have:=b.rg x d;omega,b.so,fun y c=>by cases c⟩;simp[e,e2,e3,s1,s2,le _ h.oe,le _ h.ce]
theorem ProbW.few2:Few3 [p.Plant,p.Ambient]:=fun a ha=>by
 simp only[Zah,List.not_mem_nil,or_false] at ha;rcases ha with rfl|rfl
 ·exact⟨h.pr,h.p5⟩
 ·exact⟨h.ar,h.a5⟩
theorem ProbW.few3:Few3 [p.Plant,p.Ambient,p.Requirement]:=fun a ha=>by
 simp only[Zah,List.not_mem_nil,or_false] at ha;rcases ha with rfl|rfl|rfl
 ·exact⟨h.pr,h.p5⟩
 ·exact⟨h.ar,h.a5⟩
 ·exact⟨h.rr,h.r5⟩
theorem Qbgv{A:Qa}{T:List (List Int)}{m:Qa}(d:Qbt [p.Plant,p.Ambient]=some (A,T,0))(hA:Right A)(b:A.zB=p.Plant.zB)(c:Qc3 (Qn2 (Qfr A))=some (m,0)):Qjw p=some (m,0):=by
 unfold Qjw Qen;rw[Q6i h.small,h.check,Za,if_neg (by simp),Q8t d,Za];dsimp only;rw[if_neg (by simp),<-b,Q30 hA c];rfl
theorem Qbdr{A:Qa}{T:List (List Int)}{m:Qa}(d:Qbt [p.Plant,p.Ambient,p.Requirement]=some (A,T,0))(hA:Right A)(b:A.zB=p.Plant.zB)(c:Qc3 (Qn2 (Qfr A))=some (m,0)):Qfy p=some (m,0):=by
 unfold Qfy Qb4;rw[Q6i h.small,h.check,Za,if_neg (by simp),Q8t d,Za];dsimp only;rw[if_neg (by simp),<-b,Q30 hA c];rfl
end
end Go.Abs
end
section
namespace Go.Proofs
open Go Go.Abs
theorem Qbds{x:Int}(h:wfI .u8 x):0<=x/\x<256:=by
 unfold wfI at h;simp[Lit.wf,IntKind.min,IntKind.max,IntKind.bits,IntKind.signed] at h;omega
theorem Q94{g:Qu}(h:W_27 g):Q6k g:=by
 unfold W_27 W_25 W_24 W_5 at h;obtain⟨b,c,⟨A,z,y,w,a5⟩,⟨v,u,t,s,r⟩,⟨q,p,o,n,m⟩,⟨l,k,j,i,f⟩,⟨e,e2,e3,e4,d⟩⟩:=h;refine⟨Qbds b,fun x a=>?_⟩;simp only[Zah,List.not_mem_nil,or_false] at a;rcases a with rfl|rfl|rfl|rfl|rfl|rfl|rfl|rfl|rfl|rfl|rfl|rfl|rfl|rfl|rfl|rfl|rfl|rfl|rfl|rfl|rfl|rfl|rfl|rfl|rfl<;>exact Qbds (by assumption)
theorem Qbpj{s:Qby}(h:W_30 s):Qbj7 s:=by
 obtain⟨⟨a,b,c,d,e⟩,f,g,i⟩:=h;exact⟨Qbds a,Qbds b,Qbds c,Qbds d,Qbds e,Q94 f,Q94 g,Q94 i⟩
end Go.Proofs
end
section
namespace Go.Abs
open Go Go.ChangeShapes Go.WideShapes Go.ChangeAt Go.RowKit
theorem Qbkc{X:World->Array Value->Prop}(hX:∀(w w' : World)(args:Array Value),w.heap=w'.heap->X w args->X w' args){C:Checked}{f:FuncId}{fn:Func}{s:ChangeSpec}{m:List PathCond}{bt:TypeId}{os:Os}{H:Type}{enc:TypeId×Value->H}(own:ownKnob C.prog.godebug=none)(g:os.Started)(n:C.prog.inits.idxOf? f=none)(hfn:C.prog.funcs[f]? = some fn)(d:∃(w:World)(tape:Tape)(i:Input),w.os=os/\(w.forCall tape i).Shaped C.prog/\i.vars=[]/\Input.okWide C.prog (w.forCall tape i) .any w.heap.size f i /\
   ((s.pre enc C.prog fn m false (w.forCall tape i).memory i.args/\X (w.forCall tape i).memory i.args)/\sizedMet enc C.prog fn (OpenSpec.ofChange s) false (w.forCall tape i).memory i.args)/\({}:Assume).holds C.prog (lone (Frame.enter C.prog f i.args .normal) [] (w.forCall tape i)))(l:s.vars=[])(r:fn.resultTypes = #[bt])(hbt:C.prog.underlying bt=some .bool)(hl:laidOutB C.prog=true)(A:∀t∈fn.params.toList,C.prog.readableRec t=true/\t<C.prog.types.size)(y:∀ds:List (DataW H),ds.length=fn.params.size->s.fn H ds={ results:=[.lit (.bool true)],args:=ds })(O:∀W args,X W args->Tab C.prog ⟨fun _=>0,live W,fun _=>.ext⟩ W)(M:Qbpd C.prog f fn.params.toList):
  ReturnsInHanded {} C os f .any (fun w args=>(s.pre enc C.prog fn m false w args/\X w args)/\sizedMet enc C.prog fn (OpenSpec.ofChange s) false w args) (s.post enc C.prog fn false true false false):=by
 refine returnsInHanded_of_change_and hX own g n hfn d ?_;intro W base args ds gs a B hW hcnd hx1 hx2 hx3;have J:=hW;obtain⟨p,q,hA,hV,R,hfz,hnd⟩:=hW;rw[l] at hV;obtain⟨rfl,rfl⟩ : gs=[]/\q=[]:=by
  cases gs with
  |nil=>exact⟨rfl,hV⟩
  |cons _ _=>exact hV.elim
 obtain⟨vs,h1,h2,h3,h4⟩:=M (fun j t u O hu=>B j t u (by simpa using O) (by simpa using hu)) hA;obtain⟨hb,_,h5⟩:=h4 (fun _=>none) 0;have T:∀b o,live W b o->b<W.heap.size:=by
  intro b o h;simp only[live] at h;obtain⟨v,E⟩:=Zab.1 h;unfold World.cell? at E;split at E
  ·rename_i hh;exact (Zaf.1 hh).1
  ·cases E
 have S:MR ⟨fun _=>0,live W,fun _=>.ext⟩ W (fun _=>none) 0:=⟨fun k b h=>(by cases h),fun b o h=>⟨T b o h,fun k h=>by cases h⟩⟩;have h6:=h5 W ⟨fun _=>0,live W,fun _=>.ext⟩ args.toList (O W args (by assumption)) S (fun k cs h=>by cases h) (RAs.of_flat h1) (ons_mono (fun k U=>absurd U (Nat.not_lt_zero k)) _ (ons_lt vs h3));refine Calls.mono h6 fun e W' ⟨v,g',he,_,hr,_,_,hf⟩=>?_;subst he;have E:v = .bool true:=by simpa[RV,RD] using hr
 subst E;have c:Below W.heap.size W W':=⟨hf.os,hf.tape,hf.output,hf.size,fun k U=>(hf.old k U trivial).2.1⟩;have Q:(Value.bool true).resultList fn.resultTypes.size=[.bool true]:=by rw[r];rfl
 have z:s.fn H (ds++[])={ results:=[.lit (.bool true)],args:=ds }:=by
  rw[Zar];exact y ds (by have:=(Q6f hA).1;simpa using this)
 have I:∀p∈a,p.block<W.heap.size:=fun x N=>J.lt x N;have P:∀L:Nat->Bool,(∀p∈a,L p.block=true)->DataW.TrodAll enc C.prog W' 0 L true fn.params.toList args.toList ds a:=by
  intro L F;have e:p=a:=by rw[R,Zar]
  subst e;exact Q11 hl A hA (fun x N=>c.same (I x N)) F
 refine⟨_,rfl,ds,[],a,[],a,[],J,?_,?_,?_,World.keptBut_mono (fun p hp=>⟨hp,.inr (.inl hp)⟩) (c.frame (· ∈ a)),fun h=>by cases h⟩
 ·rw[z,Q,r];exact⟨[],[],⟨1,by simp[DataW.trod,Value.cells,hbt]⟩,rfl,rfl⟩
 ·rw[z];exact P _ fun p hp=>by simpa using I p hp
 ·rw[z,l];rfl
end Go.Abs
end
section
namespace Go.Proofs
open Go Go.Abs
theorem Qbkd{P:Program}{W:World}{o m a:String}{x w:DataW Unit}{k:IntKind}{l:List Int}{g:Nat}{t e:TypeId}{n:Nat}(s:P.globalNamed a=some g)(c:(P.globals[g]?).map (·.type)=some t)(r:P.underlying t=some (.array n e))(u:P.underlying e=some (.int k))(j:P.cellsOf e=1)(i:P.cellsOf t=n)(h:laidMet P [(o,x),(m,w),(a,Lib.tabData k l)] W):Lib.TabIs P W a k l:=by
 obtain⟨E,h,_⟩:=h;obtain⟨g1,z,M,J,H,C,_,_,_,_,h,_⟩:=h;obtain⟨g2,y,L,I,F,B,_,_,_,_,h,_⟩:=h;obtain⟨g',A,cs,fuel,p,q,f,d,b,v,_,_⟩:=h;obtain rfl:=Zbq (s.symm.trans f);obtain rfl:=Zbq (c.symm.trans d);unfold Lib.TabIs;rw[b,<-Lib.cells_of_tab r u j i v]
end Go.Proofs
namespace Go.Proofs.YtdckcingoapofaaGreatDoor
open Go Go.Abs
theorem Qbpu{W:World}(h:laidMetH Tryz.prog Rows.relativeHoldsRow.laid W):Tab Tryz.prog ⟨fun _=>0,live W,fun _=>.ext⟩ W:=by
 intro gl hg
 have h0 : Tryz.prog.globalNamed "internal/strconv.uint64pow10" = some 0 := by kernel_rfl
 rw [h0] at hg;obtain rfl:=Option.some.inj hg;have h1:laidMet Tryz.prog Rows.relativeHoldsRow.laid W:=h
 have h2 : Lib.TabIs Tryz.prog W "internal/strconv.uint64pow10" .u64 Lib.pow10Tab := Qbkd h0 (t := 251) (e := 233) (n := 20) (by kernel_rfl) Tryz.underlying251 Tryz.underlying233 (by kernel_rfl) (by kernel_rfl) h1
 refine ⟨?_,rfl,h2⟩;unfold Lib.TabIs World.var? at h2;rw [h0] at h2;simp only [Option.bind_some] at h2;split at h2
 ·rename_i hh;exact (Array.getElem?_eq_some_iff.1 hh).1
 ·cases h2
end Go.Proofs.YtdckcingoapofaaGreatDoor
end
section
namespace Go.Abs
open Go
structure EdgT(stp:List Int->Int->Option (List Int))(al:List Int)(i:Nat)(done:List Int)(p:TS):Prop where
 e4:∀y∈p.2.1,∃(j k:Nat)(s t:List Int),y=⟨(j:Int),y.Event,(k:Int)⟩/\p.1[j]? = some s/\stp s y.Event=some t/\p.1[k]? = some t
 e3:∀(j:Nat)(s:List Int)(e:Int)(t:List Int),p.1[j]? = some s->(j<i/\e∈al\/j=i/\e∈done)->stp s e=some t->∃k:Nat,p.1[k]? = some t/\(⟨(j:Int),e,(k:Int)⟩ : Qb)∈p.2.1
section
variable{stp:List Int->Int->Option (List Int)}{al:List Int}
theorem EdgT.step{i:Nat}{done:List Int}{p:TS}(h:EdgT stp al i done p){s:List Int}(l:p.1[i]? = some s)(e:Int):EdgT stp al i (done++[e]) (rowM stp i s p e)/\(rowM stp i s p e).1[i]? = some s:=by
 unfold rowM;have old:∀{j:Nat}{x:Int},(j<i/\x∈al\/j=i/\x∈done++[e])->(j<i/\x∈al\/j=i/\x∈done)\/j=i/\x=e:=by
  grind
 cases hst:stp s e with
 |none =>
  refine⟨⟨h.e4,fun j c x t g a d=>?_⟩,l⟩;rcases old a with a|⟨rfl,rfl⟩
  ·exact h.e3 j c x t g a d
  grind
 |some t =>
  dsimp only;by_cases n:t∈p.1
  ·rw[if_pos n];refine⟨⟨fun y b=>?_,fun j c x f g a d=>?_⟩,l⟩
   ·rcases Zp.1 b with b|b
    ·exact h.e4 y b
    grind
   ·rcases old a with a|⟨rfl,rfl⟩
    ·obtain⟨k,q,o⟩:=h.e3 j c x f g a d
     grind
    grind
  ·rw[if_neg n];refine⟨⟨fun y b=>?_,fun j c x f g a d=>?_⟩,Qta l⟩
   ·rcases Zp.1 b with b|b
    ·obtain⟨j,k,c,f,z,w,v,u⟩:=h.e4 y b
     grind
    grind
   ·have r:=(Zm.1 l).1;have m : p.1[j]? = some c:=by
     grind
    rcases old a with a|⟨rfl,rfl⟩
    ·obtain⟨k,q,o⟩:=h.e3 j c x f m a d
     grind
    grind
theorem EdgT.fold{i:Nat}{s:List Int}:∀{es done:List Int}{p:TS},EdgT stp al i done p->p.1[i]? = some s->EdgT stp al i (done++es) (es.foldl (rowM stp i s) p)
 |[],done,p,h,_=>by simpa using h
 |e::es,done,p,h,a=>by
  rw[Zbd];obtain⟨c,b⟩:=h.step a e;have:=EdgT.fold (es:=es) c b
  rwa [Zbm] at this
theorem EdgT.next{i:Nat}{p:TS}(h:EdgT stp al i al p):EdgT stp al (i+1) [] p:=⟨h.e4,fun j s e t b c a=>h.e3 j s e t b (by
 grind) a⟩
variable{P:List Int->Prop}{N:Nat}(hd:DomT stp al P N)
include hd
theorem Q8u(a:List Int->Bool):∀{f i:Nat}{ms:List Int}{p:TS},FndT al P i p->EdgT stp al i [] p->i<=p.1.length->N+1<=f+i ->
  EdgT stp al (bldM stp a al f i ms p).1.length [] ((bldM stp a al f i ms p).1,(bldM stp a al f i ms p).2.2,[])
 |0,i,ms,p,h,he,j,k=>by have:=h.len hd;omega
 |f+1,i,ms,p,h,he,j,k=>by
  have n:=h.len hd;rw[bldM];cases hg:p.1[i]? with
  |none =>
   have b:i=p.1.length:=by have:=List.getElem?_eq_none_iff.1 hg;omega
   dsimp only;subst b;exact⟨he.e4,he.e3⟩
  |some s =>
   have d:=h.su s (Zn hg);obtain⟨m,l,o⟩:=h.row hd d (i:=i);have e:i<p.1.length:=(Zm.1 hg).1;have g:=l.length_le;dsimp only;have c:=(EdgT.fold (es:=al) he hg).next;exact Q8u a (f:=f) (i:=i+1) m c (by omega) (by omega)
end
structure PrdE(l:List Qa)(A:Qa)(T:List (List Int)):Prop where
 z:T≠[]->T[0]? = some (List.replicate l.length 0)
 ne:l.any (fun a=>a.zF==0)=false->T≠[]
 em:l.any (fun a=>a.zF==0)=true->T=[]
 stp:∀(k:Nat)(s:List Int),T[k]? = some s->∀e∈A.zB,(Qul l s e=none/\Q1 A (k:Int) e = -1)\/∃(t:List Int)(k' : Nat),Qul l s e=some t/\T[k']? = some t/\Q1 A (k:Int) e=(k' : Int)
theorem Qbof{stp:List Int->Int->Option (List Int)}{A:Qa}(hA:Right A){T:List (List Int)}(h:EdgT stp A.zB T.length [] (T,A.zD,[])){k:Nat}{s:List Int}(d:T[k]? = some s){e:Int}(l:e∈A.zB):
  (stp s e=none/\Q1 A (k:Int) e = -1)\/∃(t:List Int)(k' : Nat),stp s e=some t/\T[k']? = some t/\Q1 A (k:Int) e=(k' : Int):=by
 have i:=(Zm.1 d).1;cases hst:stp s e with
 |none =>
  refine .inl ⟨rfl,?_⟩;rcases Qb0 hA (k:Int) e with h1|h1
  ·exact h1
  ·exfalso;obtain⟨y,c,g⟩:=(Qmb hA).1 h1.1;have f:=Qbb5 hA c;obtain⟨j,k',m,t,b,a,o,n⟩:=h.e4 y (Zq.1 c).1
   grind
 |some t =>
  obtain⟨k',b,a⟩:=h.e3 k s e t d (.inl ⟨i,l⟩) hst;refine .inr ⟨t,k',rfl,b,?_⟩;exact Qou hA (s:=(k:Int)) (x:=⟨(k:Int),e,(k' : Int)⟩) (Zq.2 ⟨a,by simp⟩)
theorem Qbfo{l:List Qa}(h:Parts l)(g:l≠[]):∃A T,Qbt l=some (A,T,0)/\Prd l A T/\PrdE l A T:=by
 obtain⟨R,p,b⟩:=Qboc h;cases h0:l.any fun a=>a.zF==0 with
 |true=>exact⟨_,_,Qbj1 h h0 p,{ r:={ al0:=b.rg h,al:=b.so,st:=⟨Zbg 0,by grind⟩,ma0:=fun x c=>by simp at c,ma:=List.Pairwise.nil,ed0:=fun x c=>by simp at c,ed:=List.Pairwise.nil },st:=rfl,t:=fun x c=>by simp at c,n:=by simp,ev:=b },{ z:=fun q=>absurd rfl q,ne:=fun q=>(by rw[h0] at q;cases q),em:=fun _=>rfl,stp:=fun k s q=>by simp at q }⟩
 |false =>
  obtain⟨o,w,v,u⟩:=Qbgs h b h0;have m:=Q8u (h.dom b) (mkT l) (f:=4001) (i:=0) (ms:=[]) (Q6r h h0) ⟨fun y B=>by simp at B,fun j s e t _ q=>(by grind)⟩ (by simp) (by omega);have d:(bld0 l R).1[0]? = some (List.replicate l.length 0):=Qg2 u rfl;refine⟨_,_,Qbj0 h b g h0 p,⟨o,rfl,w,v,b⟩,⟨fun _=>d,fun _ e=>(by rw[e] at d;cases d),fun q=>(by rw[h0] at q;cases q),fun k s q e C=>Qbof o m q C⟩⟩
def runE(a:Qa):Int->List Int->Int
 |s,[]=>s
 |s,e::w=>runE a (Q1 a s e) w
theorem Qbl3{a:Qa}(h:Right a)(e:Int):Q1 a (-1) e = -1:=by
 grind [Qb0]
theorem Qi2{a:Qa}(h:Right a):∀w:List Int,runE a (-1) w = -1
 |[]=>rfl
 |e::w=>by rw[runE,Qbl3 h,Qi2 h w]
theorem Qlk(a:Qa):∀(s:Int)(v w:List Int),runE a s (v++w)=runE a (runE a s v) w
 |s,[],w=>rfl
 |s,e::v,w=>by rw[Zaq,runE,runE,Qlk a _ v w]
theorem Qyq{a:Qa}(h:Right a):∀(w:List Int)(s:Int),0<=s->s<a.zF->runE a s w = -1\/0<=runE a s w/\runE a s w<a.zF
 |[],s,b,h1=>.inr ⟨b,h1⟩
 |e::w,s,b,h1=>by
  rw[runE];rcases Qb0 h s e with h2|h2
  ·rw[h2,Qi2 h];exact .inl rfl
  ·exact Qyq h w _ h2.1 h2.2.1
theorem Qbcc{a:Qa}(h:Right a):∀(w:List Int)(s:Int)(n:Nat),0<=s->((runP a s n w).2=((n+w.length:Nat):Int)↔0<=runE a s w)
 |[],s,n,c=>by simp[runP,runE,c]
 |e::w,s,n,c=>by
  rw[runP,runE];by_cases b:0<=Q1 a s e
  ·rw[if_pos b];have:=Qbcc h w (Q1 a s e) (n+1) b;rw[<-this,Zs,show n+1+w.length=n+(w.length+1) from by omega]
  ·rw[if_neg b]
   grind [Q1,Qb0,absurd,Qi2,List.length_cons]
theorem genE{a:Qa}(h:Right a)(w:List Int):genP a w=(decide (0<a.zF)&&decide (0<=runE a 0 w)):=by
 unfold genP;have:=Qbcc h w 0 0 (Zbg _)
 grind
theorem Along.run{m a:Qa}{R:Int->Int->Prop}(b:Right m)(ha:Right a)(h:Along m a R):∀(w:List Int)(k s:Int),R k s->(runE m k w = -1/\runE a s w = -1)\/R (runE m k w) (runE a s w)
 |[],k,s,hr=>.inr hr
 |e::w,k,s,hr=>by
  rw[runE,runE];rcases h.stp k s hr e with⟨h1,h2⟩|h1
  ·rw[h1,h2,Qi2 b,Qi2 ha];exact .inl ⟨rfl,rfl⟩
  ·exact h.run b ha w _ _ h1
theorem Along.nonneg{m a:Qa}{R:Int->Int->Prop}(b:Right m)(ha:Right a)(h:Along m a R)(c:0<a.zF)(w:List Int):0<=runE m 0 w↔0<=runE a 0 w:=by
 rcases h.run b ha w 0 0 (h.z c) with⟨h1,h2⟩|h1
 ·rw[h1,h2]
 ·have:=h.st _ _ h1;omega
theorem Qbcd{a:Qa}(ha:Right a):0<(Qfr a).zF↔0<a.zF:=by
 constructor
 ·intro h;have:=(Qbgu ha).1;omega
 ·intro h;have:=(Qhn ha).2.1.length_le;rw[if_pos h] at this;show (0:Int)<((Qd1 a).length:Int)
  grind
theorem Qbce(a:Qa)(s e:Int):Q1 (Qn2 a) s e=Q1 a s e:=rfl
theorem Qn4(a:Qa):∀(w:List Int)(s:Int),runE (Qn2 a) s w=runE a s w
 |[],s=>rfl
 |e::w,s=>by rw[runE,runE,Qbce,Qn4 a w]
theorem Q2e{a:Qa}(h:Right a){m:Qa}{R:Int->Int->Prop}(b:Right m)(f:m.zF=0↔(Qfr a).zF=0)(c:Along m (Qn2 (Qfr a)) R)(w:List Int):genP a w=(decide (0<m.zF)&&decide (0<=runE m 0 w)):=by
 rw[<-Qbj4 h,genE (Qhy h)];have i:=b.st;have g:=(Qhy h).st;by_cases d:0<(Qfr a).zF
 ·have e:=c.nonneg b (Qpz (Qhy h)) d w;rw[Qn4] at e
  grind
 grind
end Go.Abs
end
section
namespace Go.Abs
open Go
section
variable{a:Qa}(h:Right a)
include h
theorem Q3h:Qju a=some (edM a):=by
 unfold Qju Qdl;obtain⟨fuel,e,d⟩ : ∃f,Q0=f/\1099511627776<=f:=⟨_,rfl,Ze _⟩;have hl:a.zD.length<big:=h.small.1.2.2;rw[e];have:=Q16 (F:=(fun(g:Int×List ((Int×Int)×Int)->Option (List ((Int×Int)×Int)))((x2,c3):Int×(List ((Int×Int)×Int)))=>(if (x2<(a.zD.length:Int)) then ((getO a.zD x2).bind fun b=>g ((IntKind.wrap .i64 (x2+1)),(setM c3 (b.From,b.Event) b.To))) else some c3))) (l:=a.zD) (fun j(p:List ((Int×Int)×Int))=>(j,p)) (fun c x=>setM c (x.From,x.Event) x.To) (fun _ _=>True) some hl d (fun k n s i _=>by
  simp_all[if_pos,Qy,Za]) (fun _ _ _ _=>trivial) (fun k s _=>by
  grind) (s0:=[]) trivial
 exact (congrArg (fun w=>Option.bind w _) this).trans rfl
theorem Qhz(s e:Int):Qbl (edM a) s e=some (Q1 a s e):=by
 unfold Qbl Qj;rw[Qbjv h];by_cases b:0<=Q1 a s e
 ·have c:s>=0:=by
   grind [Qb0]
  rw[decide_eq_true b,if_pos rfl,Za,decide_eq_true c,if_pos rfl,Qbjw h b]
 ·rw[decide_eq_false b,if_neg (by simp),Za,if_neg (by simp)]
  grind [Qb0,absurd]
end
structure Q6t(p:Qf)(A B m:Qa)(T U:List (List Int)):Prop where
 e2:Qbt [p.Plant,p.Ambient]=some (A,T,0)
 e3:Qbt [p.Plant,p.Ambient,p.Requirement]=some (B,U,0)
 hA:Prd [p.Plant,p.Ambient] A T
 hB:Prd [p.Plant,p.Ambient,p.Requirement] B U
 eA:PrdE [p.Plant,p.Ambient] A T
 eB:PrdE [p.Plant,p.Ambient,p.Requirement] B U
 aA:A.zB=p.Plant.zB
 aB:B.zB=p.Plant.zB
 lang:Qfy p=some (m,0)
 rm:Right m
 am:m.zB=p.Plant.zB
 gen:∀w,genP B w=(decide (0<m.zF)&&decide (0<=runE m 0 w))
 cl:Qhe B=some m
 fnl:∀v v',0<=runE B 0 v->runE B 0 v=runE B 0 v'->0<B.zF->runE m 0 v=runE m 0 v'
theorem Q6u{a:Qa}(ha:Right a):∀(v:List Int)(s:Int),s∈Qd1 a->0<=runE a s v->runE (Qfr a) ((Qd1 a).idxOf s:Int) v=((Qd1 a).idxOf (runE a s v):Int)
 |[],s,_,_=>rfl
 |e::v,s,c,d=>by
  have hl:=Q6o ha;rw[runE] at d |-;rw[runE];have f:0<=Q1 a s e:=by
   grind [Qb0,Qi2]
  have b:=Q8l ha hl c e
  simp_all[if_pos,Q6u,Q8m]
theorem ProbW.lang{p:Qf}(h:ProbW p):∃A B m T U,Q6t p A B m T U:=by
 obtain⟨A,T,e2,hA,eA⟩:=Qbfo (Qbka h.few2 (by simp)) (by simp);obtain⟨B,U,e3,hB,eB⟩:=Qbfo (Qbka h.few3 (by simp)) (by simp);have aA:A.zB=p.Plant.zB:=Qbkb h.pr (fun a ha=>by simp at ha;subst ha;exact h.sa) hA.ev;have aB:B.zB=p.Plant.zB:=Qbkb h.pr (fun a ha=>by
  simp only[Zah,List.not_mem_nil,or_false] at ha;rcases ha with rfl|rfl
  ·exact h.sa
  ·exact h.sr) hB.ev
 obtain⟨m,R,n,e,u,s,x,b⟩:=Qbcb hB.r;refine⟨A,B,m,T,U,e2,e3,hA,hB,eA,eB,aA,aB,Qbdr h e3 hB.r aB n,e,u.trans aB,Q2e hB.r e s b,Qbdq hB.r n,fun v v' l k f=>?_⟩;have hc:=Qhy hB.r;have j:(0:Int)∈Qd1 B:=by
  have hp:=(Qhn hB.r).2.1;rw[if_pos f] at hp;exact hp.subset (by simp)
 have i:=Q6u hB.r v 0 j l;have g:=Q6u hB.r v' 0 j (by rw[<-k];exact l);rw[<-k] at g;have d:0<(Qfr B).zF:=(Qbcd hB.r).2 f;have c:((Qd1 B).idxOf (0:Int):Int)=0:=by
  have hp:=(Qhn hB.r).2.1;rw[if_pos f] at hp;obtain⟨t,o⟩:=hp;rw[<-o];simp
 rw[c] at i g;have w:0<=runE (Qfr B) 0 v:=by rw[i];omega
 rcases b.run e (Qpz hc) v 0 0 (b.z d) with⟨_,q⟩|q1
 ·rw[Qn4] at q;omega
 ·rcases b.run e (Qpz hc) v' 0 0 (b.z d) with⟨_,q⟩|q2
  ·rw[Qn4] at q;omega
  ·rw[Qn4,i] at q1;rw[Qn4,g] at q2;exact b.fn _ _ _ q1 q2
def sysP(p:Qf)(A m:Qa)(T:List (List Int)):Qg :=
 ⟨p,p.Plant.zB,edM m,edM A,T.map fun t=>ati t 0,edM p.Plant,A.zF==0,⟨0,if m.zF==0 then -1 else 0⟩⟩
theorem Qbke{p:Qf}(h:ProbW p){A B m:Qa}{T U:List (List Int)}(hl:Q6t p A B m T U):Qim p=some (sysP p A m T,true,m,0):=by
 unfold Qim Qb9;obtain⟨fuel,d,l⟩ : ∃f,Q0=f/\1099511627776<=f:=⟨_,rfl,Ze _⟩;have q:=hl.hA.n;rw[d,hl.lang,Za];dsimp only;rw[if_neg (by simp),hl.e2,Za];dsimp only;rw[if_neg (by simp),Q3h hl.rm,Za,Q3h hl.hA.r,Za,Q3h h.pr,Za];refine Qyc (P:=fun r:List Int×List Int×List Qb×List Int=>r.2.2.2=T.map fun t=>ati t 0) (Q:=fun r:Option (Qg×Bool×Qa×Int)=>r=some (sysP p A m T,true,m,0)) ?_ ?_
 ·refine Qb1 (fun x:Int×List Int×List Int×List Qb×List Int=>∃i:Nat,x.1=(i:Int)/\i<=T.length/\x.2.2.2.2=(T.take i).map fun t=>ati t 0) (fun x=>T.length-x.1.toNat) (fun _ r=>∃v:List Int×List Int×List Qb×List Int,r=some v/\v.2.2.2=T.map fun t=>ati t 0) (fun k x c g=>?_) fuel _ ⟨0,rfl,by omega,rfl⟩ (by dsimp only;omega);obtain⟨i,c,s,e⟩:=c;obtain⟨x,z,y,u,w⟩:=x;dsimp only at c e;subst c e;dsimp only;by_cases b:i<T.length
  ·have j:=hl.hA.t _ (Zr b);have hl:=j.len;have o:getO T[i] 0=some (ati T[i] 0):=by
    rw[show (0:Int)=((0:Nat):Int) from rfl,Qy (by rw[hl];simp:0<T[i].length)]
    simp_all[ati,at0,Zbt]
   rw[if_pos (by omega),Qy b,Za,o,Za,Qbm (by grind [List.length_map,List.length_take,List.length_cons,List.length_nil,lim]),Za,Qx (by omega)];refine g _ ⟨i+1,rfl,by omega,?_⟩ (by dsimp only;omega)
   grind [List.take_succ_eq_append_getElem]
  ·rw[if_neg (by omega)]
   grind
 grind [sysP]
section
variable{p:Qf}(h:ProbW p){A B m:Qa}{T U:List (List Int)}(hl:Q6t p A B m T U)
include h hl
theorem Qbgw{k:Nat}{s:List Int}(g:T[k]? = some s){e:Int}(i:e∈p.Plant.zB):
  Q1 A (k:Int) e = -1\/∃(t:List Int)(k' : Nat),T[k']? = some t/\Q1 A (k:Int) e=(k' : Int)/\ati t 0=Q1 p.Plant (ati s 0) e/\0<=Q1 p.Plant (ati s 0) e:=by
 have d:=hl.eA.stp k s g e (by rw[hl.aA];exact i);rcases d with⟨_,b⟩|⟨t,k',b,n,l⟩
 ·exact .inl b
 ·refine .inr ⟨t,k',n,l,?_⟩;have f:=hl.hA.t s (Zn g);have c:=f.len
  match s,c with
  |x::y::[],_ =>
   simp only[Qul,Qbdm,i,if_true] at b;by_cases j:0<=Q1 p.Plant x e
   ·rw[if_pos j] at b;cases hq:(if e∈p.Ambient.zB then (if 0<=Q1 p.Ambient y e then some (Q1 p.Ambient y e) else none) else some y) with
    |none=>grind
    |some z =>
     rw[hq] at b;simp at b;subst b;exact⟨rfl,j⟩
   grind
theorem Qbcf:∀(w:List Int)(k:Nat)(s:List Int),T[k]? = some s->0<=runE A (k:Int) w->∃(k' : Nat)(t:List Int),runE A (k:Int) w=(k' : Int)/\T[k']? = some t/\ati t 0=runE p.Plant (ati s 0) w/\0<=runE p.Plant (ati s 0) w
 |[],k,s,d,_=>⟨k,s,rfl,d,rfl,by
  have c:=hl.hA.t s (Zn d);have b:=c.len;have:=c.get 0 (by simp) (by rw[b];simp);simp only[runE,ati,at0,Zbt];rw[show ((0:Int).toNat)=0 from rfl,Zj (by rw[b];simp)];exact this.1⟩
 |e::w,k,s,d,f=>by
  rw[runE] at f |-;have hr:0<=Q1 A (k:Int) e:=by
   rcases Qb0 hl.hA.r (k:Int) e with h1|h1
   ·rw[h1,Qi2 hl.hA.r] at f;omega
   ·exact h1.1
  have q:e∈p.Plant.zB:=by
   rcases Qb0 hl.hA.r (k:Int) e with h1|h1
   ·omega
   ·rw[<-hl.aA];exact h1.2.2.2.2
  rcases Qbgw h hl d q with h1|⟨t,k',h1,h2,h3,h4⟩
  ·omega
  ·rw[h2] at f |-;obtain⟨o,g,n,l,j,i⟩:=Qbcf w k' t h1 f;rw[runE,<-h3];exact⟨o,g,n,l,j,i⟩
omit h in
theorem Qbgx(w:List Int):(0<=runE m (if m.zF==0 then -1 else 0) w)↔genP B w=true:=by
 rw[hl.gen];have:=hl.rm.st;by_cases b:m.zF=0
 ·rw[if_pos (by simp[b]),Qi2 hl.rm,decide_eq_false (by omega:¬0<m.zF)];simp
 ·rw[if_neg (by simp[b]),decide_eq_true (by omega:0<m.zF)];simp
end
end Go.Abs
end
section
namespace Go.Abs
open Go
def obsW(a w:List Int):List Int:=w.filter fun e=>decide (e∈a)
theorem Qbcg{F:(List Int×Int->Option (List Int))->List Int×Int->Option (List Int)}{l:List Int}(q:Int->Bool)(hl:l.length<big)(step:∀(k:List Int×Int->Option (List Int))(n:Nat)(s:List Int)(h:n<l.length),s.length<=n->F k (s,(n:Int))=k ((if q l[n] then s++[l[n]] else s),IntKind.wrap .i64 ((n:Int)+1)))(a:∀(k:List Int×Int->Option (List Int))(s:List Int),F k (s,(l.length:Int))=some s):Qbp F Q0 ([],0)=some (l.filter q):=by
 have hb:l.length<1000000000000:=hl;have:=Qhx (F:=F) (len:=l.length) (fun n(s:List Int)=>(s,(n:Int))) (fun n s=>s.length<=n) (fun n s=>some (s++(l.drop n).filter q)) (fun k n s c d b=>by
  grind [Go.step,Qx,List.drop_eq_getElem_cons]) (fun k s _=>by rw[a k s];simp) Q0 0 [] (Zw _) (by unfold Q0;omega) (Ze _)
 simpa using this
theorem Qbgy{a w:List Int}(c:a.Pairwise (· < ·))(ho:a.length<big)(b:w.length<big):Qoc w a=some (obsW a w):=by
 unfold Qoc Qgx;have hb:w.length<1000000000000:=b;refine (congrArg (fun w=>Option.bind w _) (Qbcg (l:=w) (fun e=>decide (e∈a)) b (fun k n s d f=>?_) (fun k s=>?_))).trans rfl
 ·dsimp only;rw[if_pos (by omega),Qy d,Za,Qly c ho,Za];cases decide (w[n]∈a) with
  |true=>rw[if_pos rfl,if_pos rfl,Qbm (by grind [List.length_cons,List.length_nil,lim]),Za,Za]
  |false=>rfl
 grind
theorem Qbkf{l:List Int}{v:Int}(hl:l.length<big):Qiz l v=some (decide (v∈l)):=Qbe9 hl
theorem Q8v{a w:List Int}(ho:a.length<big)(b:w.length<big):Qgu a w=some (obsW a w):=by
 unfold Qgu Qcg;have hb:w.length<1000000000000:=b;refine (congrArg (fun w=>Option.bind w _) (Qbcg (l:=w) (fun e=>decide (e∈a)) b (fun k n s c d=>?_) (fun k s=>?_))).trans rfl
 ·dsimp only;rw[if_pos (by omega),Qy c,Za,Qbkf ho,Za];cases decide (w[n]∈a) with
  |true=>rw[if_pos rfl,if_pos rfl,Za,Qbm (by grind [List.length_cons,List.length_nil,lim]),Za,Za]
  |false=>rfl
 grind
section
variable{p:Qf}(h:ProbW p){A B m:Qa}{T U:List (List Int)}(hl:Q6t p A B m T U)
include h hl
theorem Qbgz{k:Nat}{t:List Int}(d:T[k]? = some t)(y e:Int):Qeq (sysP p A m T) ⟨(k:Int),y⟩ e=some (decide (0<=Q1 p.Plant (ati t 0) e)&&decide (Q1 m y e<0)):=by
 unfold Qeq Q8 sysP;dsimp only;have a:k<(T.map fun t=>ati t 0).length:=by grind
 have b:(T.map fun t=>ati t 0)[k]=ati t 0:=by
  grind
 rw[Qy a,Za,b,Qhz h.pr,Za];by_cases c:0<=Q1 p.Plant (ati t 0) e
 ·rw[if_pos (by omega),Qhz hl.rm,Za,decide_eq_true c,Zbe]
 grind
end
end Go.Abs
end

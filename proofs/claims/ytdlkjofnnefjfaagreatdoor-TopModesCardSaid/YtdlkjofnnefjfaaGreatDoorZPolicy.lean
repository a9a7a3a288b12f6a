/- The walks of the smallest functions: statuses, bounds, methods. The walks of layer 15: what policies allow: for all arguments. -/
import Derived.Test.YtdlkjofnnefjfaaGreatDoorZUrlB
import Derived.Test.YtdlkjofnnefjfaaGreatDoorZRange
set_option linter.all false
namespace Go.Proofs.YtdlkjofnnefjfaaGreatDoor
set_option maxRecDepth 100000
section
open Go.RowKit
def redir (n:Int):Bool:=n == 301 || n == 302 || n == 303 || n == 307 || n == 308
theorem redir_any (n:Int) (w:World):Calls Tryz.prog 10 #[.int .i64 n] w fun e w'=>e=.returned (.bool (redir n))∧w=w':=by
 by_cases h1:n=301
 ·subst h1
  go_enter Tryz.func10,Tryz.ntmps10
  go_wp2
  go_ret
  exact⟨rfl,rfl⟩
 ·by_cases h2:n=302
  ·subst h2
   go_enter Tryz.func10,Tryz.ntmps10
   go_wp2
   go_ret
   exact⟨rfl,rfl⟩
  ·by_cases h3:n=303
   ·subst h3
    go_enter Tryz.func10,Tryz.ntmps10
    go_wp2
    go_ret
    exact⟨rfl,rfl⟩
   ·by_cases h4:n=307
    ·subst h4
     go_enter Tryz.func10,Tryz.ntmps10
     go_wp2
     go_ret
     exact⟨rfl,rfl⟩
    ·by_cases h5:n=308
     ·subst h5
      go_enter Tryz.func10,Tryz.ntmps10
      go_wp2
      go_ret
      exact⟨rfl,rfl⟩
     ·have HZ:Hid (redir n=false):=by show _=_;unfold redir;simp[h1,h2,h3,h4,h5]
      have e1:(n == 301)=false:=by rw[beq_eq_false_iff_ne];exact h1
      have e2:(n == 302)=false:=by rw[beq_eq_false_iff_ne];exact h2
      have e3:(n == 303)=false:=by rw[beq_eq_false_iff_ne];exact h3
      have e4:(n == 307)=false:=by rw[beq_eq_false_iff_ne];exact h4
      have e5:(n == 308)=false:=by rw[beq_eq_false_iff_ne];exact h5
      clear h1 h2 h3 h4 h5
      go_enter Tryz.func10,Tryz.ntmps10
      go_wp2
      go_ret
      exact⟨ret_bool HZ.out.symm,rfl⟩
def inB (n m:Int):Bool:=decide (0≤n) && decide (n < m)
theorem in_any (n m:Int) (w:World):Calls Tryz.prog 54 #[.int .i64 n,.int .i64 m] w fun e w'=>e=.returned (.bool (inB n m))∧w=w':=by
 have HE:Hid (inB n m=_):=inB.eq_1 n m
 obtain⟨r,hr⟩:∃ r,r=inB n m:=⟨_,rfl⟩
 rw[← hr] at HE ⊢
 clear hr
 by_cases h:0≤n
 ·have HZ:Hid (r=decide (n < m)):=by show _=_;rw[HE.out,decide_eq_true h];rfl
  clear HE
  go_enter Tryz.func54,Tryz.ntmps54
  go_wp2
  go_ret
  exact⟨ret_bool (by rw[HZ.out]),rfl⟩
 ·have HZ:Hid (r=false):=by show _=_;rw[HE.out,decide_eq_false h];rfl
  clear HE
  go_enter Tryz.func54,Tryz.ntmps54
  go_wp2
  go_ret
  exact⟨ret_bool (by rw[HZ.out]),rfl⟩
def sGET:ByteArray:=⟨#[71,69,84]⟩
def sHEAD:ByteArray:=⟨#[72,69,65,68]⟩
def sPOST:ByteArray:=⟨#[80,79,83,84]⟩
def rewr (n:Int) (m:ByteArray):Bool:=if n == 301 || n == 302 then decide (m=sPOST) else if n == 303 then !decide (m=sGET) && !decide (m=sHEAD) else false
set_option maxHeartbeats 1000000 in
theorem rewr_any (n:Int) (m:ByteArray) (w:World):Calls Tryz.prog 186 #[.int .i64 n,.string m] w fun e w'=>e=.returned (.bool (rewr n m))∧w=w':=by
 have HP:(m.data.toList == [80,79,83,84])=decide (m=sPOST):=beq_str m sPOST
 have HG:(m.data.toList == [71,69,84])=decide (m=sGET):=beq_str m sGET
 have HH:(m.data.toList == [72,69,65,68])=decide (m=sHEAD):=beq_str m sHEAD
 have HP':(m.toList == [80,79,83,84])=decide (m=sPOST):=by rw[toList_data];exact HP
 have HG':(m.toList == [71,69,84])=decide (m=sGET):=by rw[toList_data];exact HG
 have HH':(m.toList == [72,69,65,68])=decide (m=sHEAD):=by rw[toList_data];exact HH
 have HE:Hid (rewr n m=_):=rewr.eq_1 n m
 obtain⟨r,hr⟩:∃ r,r=rewr n m:=⟨_,rfl⟩
 obtain⟨p,hp⟩:∃ p,p=decide (m=sPOST):=⟨_,rfl⟩
 obtain⟨g,hg⟩:∃ g,g=decide (m=sGET):=⟨_,rfl⟩
 obtain⟨h,hh⟩:∃ h,h=decide (m=sHEAD):=⟨_,rfl⟩
 simp only[← hp,← hg,← hh,← hr] at HP HG HH HP' HG' HH' HE ⊢
 clear hr hp hg hh
 by_cases h1:n=301
 ·subst h1
  have HZ:Hid (r=p):=HE.out
  clear HE
  go_enter Tryz.func186,Tryz.ntmps186
  go_wp2
  go_ret
  exact⟨ret_bool (by rw[HZ.out]),rfl⟩
 ·by_cases h2:n=302
  ·subst h2
   have HZ:Hid (r=p):=HE.out
   clear HE
   go_enter Tryz.func186,Tryz.ntmps186
   go_wp2
   go_ret
   exact⟨ret_bool (by rw[HZ.out]),rfl⟩
  ·by_cases h3:n=303
   ·subst h3
    have HZ:Hid (r=(!g && !h)):=HE.out
    clear HE
    cases g with
    | true =>
     go_enter Tryz.func186,Tryz.ntmps186
     go_wp2
     go_ret
     exact⟨ret_bool (by rw[HZ.out];rfl),rfl⟩
    | false =>
     go_enter Tryz.func186,Tryz.ntmps186
     go_wp2
     go_ret
     exact⟨ret_bool (by rw[HZ.out];rfl),rfl⟩
   ·have e1:(n == 301)=false:=by rw[beq_eq_false_iff_ne];exact h1
    have e2:(n == 302)=false:=by rw[beq_eq_false_iff_ne];exact h2
    have e3:(n == 303)=false:=by rw[beq_eq_false_iff_ne];exact h3
    have HZ:Hid (r=false):=by show _=_;rw[HE.out,e1,e2,e3];rfl
    clear HE h1 h2 h3
    go_enter Tryz.func186,Tryz.ntmps186
    go_wp2
    go_ret
    exact⟨ret_bool (by rw[HZ.out]),rfl⟩
end
end Go.Proofs.YtdlkjofnnefjfaaGreatDoor
namespace Go.Proofs.YtdlkjofnnefjfaaGreatDoor.Policy
open Go.RowKit
set_option maxRecDepth 100000
def us (p:Int):Int:=if p≤0∨9≤p then 7 else p
def row (u:Int):Int×Int×Int×Int :=
 if u=1 then (0,0,0,0) else if u=2 then (2,2,0,0) else if u=3 then (2,0,2,0) else if u=4 then (1,1,1,1)
 else if u=5 then (1,1,0,0) else if u=6 then (2,1,2,1) else if u=7 then (2,1,2,0) else (2,2,2,2)
def pick (r:Int×Int×Int×Int) (s d:Bool):Int :=
 match s,d with
 | true,false=>r.1
 | false,false=>r.2.1
 | true,true=>r.2.2.1
 | false,true=>r.2.2.2
def al (p:Int) (s d:Bool):Int:=pick (row (us p)) s d
def mt (a b:Int):Int:=if a < 0∨b < 0∨2 < a∨2 < b then 0 else if a < b then a else b
def st (p q:Int):Bool:=decide (al p true false≤al q true false) && decide (al p false false≤al q false false) && decide (al p true true≤al q true true) && decide (al p false true≤al q false true)
theorem us_cases (p:Int):us p=1∨us p=2∨us p=3∨us p=4∨us p=5∨us p=6∨us p=7∨us p=8:=by
 unfold us;split <;> omega
theorem us_in {p:Int} (h1:1≤p) (h2:p≤8):us p=p:=by unfold us;rw[if_neg (by omega)]
theorem us_out {p:Int} (h:p≤0∨9≤p):us p=7:=by unfold us;rw[if_pos h]
theorem usual_is (p u:Int) (w:World) (h:us p=u):Calls Tryz.prog 232 #[.int .i64 p] w fun e w'=>e=.returned (.int .i64 u)∧w=w':=by
 subst h
 by_cases h1:p≤0
 ·have hu:=Lib.hid (us_out (p:=p) (Or.inl h1))
  go_enter Tryz.func232,Tryz.ntmps232
  go_wp2
  go_ret
  exact⟨ret_int hu.out.symm,rfl⟩
 ·by_cases h2:9≤p
  ·have hu:=Lib.hid (us_out (p:=p) (Or.inr h2))
   go_enter Tryz.func232,Tryz.ntmps232
   go_wp2
   go_ret
   exact⟨ret_int hu.out.symm,rfl⟩
  ·have hu:=Lib.hid (us_in (p:=p) (by omega) (by omega))
   go_enter Tryz.func232,Tryz.ntmps232
   go_wp2
   go_ret
   exact⟨ret_int hu.out.symm,rfl⟩
def rowV (p:Int):Value:=.agg #[.int .i64 (al p true false),.int .i64 (al p false false),.int .i64 (al p true true),.int .i64 (al p false true)]
theorem idx1 (w:World):(Instr.index 289 (.agg #[.int .i64 0,.int .i64 0,.int .i64 0,.int .i64 0,.int .i64 0,.int .i64 0,.int .i64 0,.int .i64 0,.int .i64 2,.int .i64 2,.int .i64 0,.int .i64 0,.int .i64 2,.int .i64 0,.int .i64 2,.int .i64 0,.int .i64 1,.int .i64 1,.int .i64 1,.int .i64 1,.int .i64 1,.int .i64 1,.int .i64 0,.int .i64 0,.int .i64 2,.int .i64 1,.int .i64 2,.int .i64 1,.int .i64 2,.int .i64 1,.int .i64 2,.int .i64 0,.int .i64 2,.int .i64 2,.int .i64 2,.int .i64 2]) (.int .i64 1)).run Tryz.prog w=.ok (.agg #[.int .i64 0,.int .i64 0,.int .i64 0,.int .i64 0]) w:=by kernel_rfl
theorem idx2 (w:World):(Instr.index 289 (.agg #[.int .i64 0,.int .i64 0,.int .i64 0,.int .i64 0,.int .i64 0,.int .i64 0,.int .i64 0,.int .i64 0,.int .i64 2,.int .i64 2,.int .i64 0,.int .i64 0,.int .i64 2,.int .i64 0,.int .i64 2,.int .i64 0,.int .i64 1,.int .i64 1,.int .i64 1,.int .i64 1,.int .i64 1,.int .i64 1,.int .i64 0,.int .i64 0,.int .i64 2,.int .i64 1,.int .i64 2,.int .i64 1,.int .i64 2,.int .i64 1,.int .i64 2,.int .i64 0,.int .i64 2,.int .i64 2,.int .i64 2,.int .i64 2]) (.int .i64 2)).run Tryz.prog w=.ok (.agg #[.int .i64 2,.int .i64 2,.int .i64 0,.int .i64 0]) w:=by kernel_rfl
theorem idx3 (w:World):(Instr.index 289 (.agg #[.int .i64 0,.int .i64 0,.int .i64 0,.int .i64 0,.int .i64 0,.int .i64 0,.int .i64 0,.int .i64 0,.int .i64 2,.int .i64 2,.int .i64 0,.int .i64 0,.int .i64 2,.int .i64 0,.int .i64 2,.int .i64 0,.int .i64 1,.int .i64 1,.int .i64 1,.int .i64 1,.int .i64 1,.int .i64 1,.int .i64 0,.int .i64 0,.int .i64 2,.int .i64 1,.int .i64 2,.int .i64 1,.int .i64 2,.int .i64 1,.int .i64 2,.int .i64 0,.int .i64 2,.int .i64 2,.int .i64 2,.int .i64 2]) (.int .i64 3)).run Tryz.prog w=.ok (.agg #[.int .i64 2,.int .i64 0,.int .i64 2,.int .i64 0]) w:=by kernel_rfl
theorem idx4 (w:World):(Instr.index 289 (.agg #[.int .i64 0,.int .i64 0,.int .i64 0,.int .i64 0,.int .i64 0,.int .i64 0,.int .i64 0,.int .i64 0,.int .i64 2,.int .i64 2,.int .i64 0,.int .i64 0,.int .i64 2,.int .i64 0,.int .i64 2,.int .i64 0,.int .i64 1,.int .i64 1,.int .i64 1,.int .i64 1,.int .i64 1,.int .i64 1,.int .i64 0,.int .i64 0,.int .i64 2,.int .i64 1,.int .i64 2,.int .i64 1,.int .i64 2,.int .i64 1,.int .i64 2,.int .i64 0,.int .i64 2,.int .i64 2,.int .i64 2,.int .i64 2]) (.int .i64 4)).run Tryz.prog w=.ok (.agg #[.int .i64 1,.int .i64 1,.int .i64 1,.int .i64 1]) w:=by kernel_rfl
theorem idx5 (w:World):(Instr.index 289 (.agg #[.int .i64 0,.int .i64 0,.int .i64 0,.int .i64 0,.int .i64 0,.int .i64 0,.int .i64 0,.int .i64 0,.int .i64 2,.int .i64 2,.int .i64 0,.int .i64 0,.int .i64 2,.int .i64 0,.int .i64 2,.int .i64 0,.int .i64 1,.int .i64 1,.int .i64 1,.int .i64 1,.int .i64 1,.int .i64 1,.int .i64 0,.int .i64 0,.int .i64 2,.int .i64 1,.int .i64 2,.int .i64 1,.int .i64 2,.int .i64 1,.int .i64 2,.int .i64 0,.int .i64 2,.int .i64 2,.int .i64 2,.int .i64 2]) (.int .i64 5)).run Tryz.prog w=.ok (.agg #[.int .i64 1,.int .i64 1,.int .i64 0,.int .i64 0]) w:=by kernel_rfl
theorem idx6 (w:World):(Instr.index 289 (.agg #[.int .i64 0,.int .i64 0,.int .i64 0,.int .i64 0,.int .i64 0,.int .i64 0,.int .i64 0,.int .i64 0,.int .i64 2,.int .i64 2,.int .i64 0,.int .i64 0,.int .i64 2,.int .i64 0,.int .i64 2,.int .i64 0,.int .i64 1,.int .i64 1,.int .i64 1,.int .i64 1,.int .i64 1,.int .i64 1,.int .i64 0,.int .i64 0,.int .i64 2,.int .i64 1,.int .i64 2,.int .i64 1,.int .i64 2,.int .i64 1,.int .i64 2,.int .i64 0,.int .i64 2,.int .i64 2,.int .i64 2,.int .i64 2]) (.int .i64 6)).run Tryz.prog w=.ok (.agg #[.int .i64 2,.int .i64 1,.int .i64 2,.int .i64 1]) w:=by kernel_rfl
theorem idx7 (w:World):(Instr.index 289 (.agg #[.int .i64 0,.int .i64 0,.int .i64 0,.int .i64 0,.int .i64 0,.int .i64 0,.int .i64 0,.int .i64 0,.int .i64 2,.int .i64 2,.int .i64 0,.int .i64 0,.int .i64 2,.int .i64 0,.int .i64 2,.int .i64 0,.int .i64 1,.int .i64 1,.int .i64 1,.int .i64 1,.int .i64 1,.int .i64 1,.int .i64 0,.int .i64 0,.int .i64 2,.int .i64 1,.int .i64 2,.int .i64 1,.int .i64 2,.int .i64 1,.int .i64 2,.int .i64 0,.int .i64 2,.int .i64 2,.int .i64 2,.int .i64 2]) (.int .i64 7)).run Tryz.prog w=.ok (.agg #[.int .i64 2,.int .i64 1,.int .i64 2,.int .i64 0]) w:=by kernel_rfl
theorem idx8 (w:World):(Instr.index 289 (.agg #[.int .i64 0,.int .i64 0,.int .i64 0,.int .i64 0,.int .i64 0,.int .i64 0,.int .i64 0,.int .i64 0,.int .i64 2,.int .i64 2,.int .i64 0,.int .i64 0,.int .i64 2,.int .i64 0,.int .i64 2,.int .i64 0,.int .i64 1,.int .i64 1,.int .i64 1,.int .i64 1,.int .i64 1,.int .i64 1,.int .i64 0,.int .i64 0,.int .i64 2,.int .i64 1,.int .i64 2,.int .i64 1,.int .i64 2,.int .i64 1,.int .i64 2,.int .i64 0,.int .i64 2,.int .i64 2,.int .i64 2,.int .i64 2]) (.int .i64 8)).run Tryz.prog w=.ok (.agg #[.int .i64 2,.int .i64 2,.int .i64 2,.int .i64 2]) w:=by kernel_rfl
theorem rowV_of {p u:Int} (h:us p=u):rowV p=.agg #[.int .i64 (row u).1,.int .i64 (row u).2.1,.int .i64 (row u).2.2.1,.int .i64 (row u).2.2.2]:=by
 subst h;rfl
theorem allowed_1 (p:Int) (w:World) (h:us p=1):Calls Tryz.prog 197 #[.int .i64 p] w fun e w'=>e=.returned (rowV p)∧Below w.heap.size w w':=by
 have hr:=rowV_of h
 have HR:Hid (rowV p=.agg #[.int .i64 0,.int .i64 0,.int .i64 0,.int .i64 0]):=hr
 clear hr
 have hi:=idx1
 go_enter Tryz.func197,Tryz.ntmps197
 go_wp2_with fail
 refine(usual_is p 1 _ h).mono ?_
 rintro e w' ⟨rfl,rfl⟩
 clear h
 go_wp2
 refine bodyPost_ret (v:=.agg #[.int .i64 0,.int .i64 0,.int .i64 0,.int .i64 0]) (by simp[results,Tryz.results197,go_sem]) rfl ⟨by rw[HR.out],?_⟩
 exact(Below.refl _ _).alloc (Nat.le_refl _) _
theorem allowed_2 (p:Int) (w:World) (h:us p=2):Calls Tryz.prog 197 #[.int .i64 p] w fun e w'=>e=.returned (rowV p)∧Below w.heap.size w w':=by
 have hr:=rowV_of h
 have HR:Hid (rowV p=.agg #[.int .i64 2,.int .i64 2,.int .i64 0,.int .i64 0]):=hr
 clear hr
 have hi:=idx2
 go_enter Tryz.func197,Tryz.ntmps197
 go_wp2_with fail
 refine(usual_is p 2 _ h).mono ?_
 rintro e w' ⟨rfl,rfl⟩
 clear h
 go_wp2
 refine bodyPost_ret (v:=.agg #[.int .i64 2,.int .i64 2,.int .i64 0,.int .i64 0]) (by simp[results,Tryz.results197,go_sem]) rfl ⟨by rw[HR.out],?_⟩
 exact(Below.refl _ _).alloc (Nat.le_refl _) _
theorem allowed_3 (p:Int) (w:World) (h:us p=3):Calls Tryz.prog 197 #[.int .i64 p] w fun e w'=>e=.returned (rowV p)∧Below w.heap.size w w':=by
 have hr:=rowV_of h
 have HR:Hid (rowV p=.agg #[.int .i64 2,.int .i64 0,.int .i64 2,.int .i64 0]):=hr
 clear hr
 have hi:=idx3
 go_enter Tryz.func197,Tryz.ntmps197
 go_wp2_with fail
 refine(usual_is p 3 _ h).mono ?_
 rintro e w' ⟨rfl,rfl⟩
 clear h
 go_wp2
 refine bodyPost_ret (v:=.agg #[.int .i64 2,.int .i64 0,.int .i64 2,.int .i64 0]) (by simp[results,Tryz.results197,go_sem]) rfl ⟨by rw[HR.out],?_⟩
 exact(Below.refl _ _).alloc (Nat.le_refl _) _
theorem allowed_4 (p:Int) (w:World) (h:us p=4):Calls Tryz.prog 197 #[.int .i64 p] w fun e w'=>e=.returned (rowV p)∧Below w.heap.size w w':=by
 have hr:=rowV_of h
 have HR:Hid (rowV p=.agg #[.int .i64 1,.int .i64 1,.int .i64 1,.int .i64 1]):=hr
 clear hr
 have hi:=idx4
 go_enter Tryz.func197,Tryz.ntmps197
 go_wp2_with fail
 refine(usual_is p 4 _ h).mono ?_
 rintro e w' ⟨rfl,rfl⟩
 clear h
 go_wp2
 refine bodyPost_ret (v:=.agg #[.int .i64 1,.int .i64 1,.int .i64 1,.int .i64 1]) (by simp[results,Tryz.results197,go_sem]) rfl ⟨by rw[HR.out],?_⟩
 exact(Below.refl _ _).alloc (Nat.le_refl _) _
theorem allowed_5 (p:Int) (w:World) (h:us p=5):Calls Tryz.prog 197 #[.int .i64 p] w fun e w'=>e=.returned (rowV p)∧Below w.heap.size w w':=by
 have hr:=rowV_of h
 have HR:Hid (rowV p=.agg #[.int .i64 1,.int .i64 1,.int .i64 0,.int .i64 0]):=hr
 clear hr
 have hi:=idx5
 go_enter Tryz.func197,Tryz.ntmps197
 go_wp2_with fail
 refine(usual_is p 5 _ h).mono ?_
 rintro e w' ⟨rfl,rfl⟩
 clear h
 go_wp2
 refine bodyPost_ret (v:=.agg #[.int .i64 1,.int .i64 1,.int .i64 0,.int .i64 0]) (by simp[results,Tryz.results197,go_sem]) rfl ⟨by rw[HR.out],?_⟩
 exact(Below.refl _ _).alloc (Nat.le_refl _) _
theorem allowed_6 (p:Int) (w:World) (h:us p=6):Calls Tryz.prog 197 #[.int .i64 p] w fun e w'=>e=.returned (rowV p)∧Below w.heap.size w w':=by
 have hr:=rowV_of h
 have HR:Hid (rowV p=.agg #[.int .i64 2,.int .i64 1,.int .i64 2,.int .i64 1]):=hr
 clear hr
 have hi:=idx6
 go_enter Tryz.func197,Tryz.ntmps197
 go_wp2_with fail
 refine(usual_is p 6 _ h).mono ?_
 rintro e w' ⟨rfl,rfl⟩
 clear h
 go_wp2
 refine bodyPost_ret (v:=.agg #[.int .i64 2,.int .i64 1,.int .i64 2,.int .i64 1]) (by simp[results,Tryz.results197,go_sem]) rfl ⟨by rw[HR.out],?_⟩
 exact(Below.refl _ _).alloc (Nat.le_refl _) _
theorem allowed_7 (p:Int) (w:World) (h:us p=7):Calls Tryz.prog 197 #[.int .i64 p] w fun e w'=>e=.returned (rowV p)∧Below w.heap.size w w':=by
 have hr:=rowV_of h
 have HR:Hid (rowV p=.agg #[.int .i64 2,.int .i64 1,.int .i64 2,.int .i64 0]):=hr
 clear hr
 have hi:=idx7
 go_enter Tryz.func197,Tryz.ntmps197
 go_wp2_with fail
 refine(usual_is p 7 _ h).mono ?_
 rintro e w' ⟨rfl,rfl⟩
 clear h
 go_wp2
 refine bodyPost_ret (v:=.agg #[.int .i64 2,.int .i64 1,.int .i64 2,.int .i64 0]) (by simp[results,Tryz.results197,go_sem]) rfl ⟨by rw[HR.out],?_⟩
 exact(Below.refl _ _).alloc (Nat.le_refl _) _
theorem allowed_8 (p:Int) (w:World) (h:us p=8):Calls Tryz.prog 197 #[.int .i64 p] w fun e w'=>e=.returned (rowV p)∧Below w.heap.size w w':=by
 have hr:=rowV_of h
 have HR:Hid (rowV p=.agg #[.int .i64 2,.int .i64 2,.int .i64 2,.int .i64 2]):=hr
 clear hr
 have hi:=idx8
 go_enter Tryz.func197,Tryz.ntmps197
 go_wp2_with fail
 refine(usual_is p 8 _ h).mono ?_
 rintro e w' ⟨rfl,rfl⟩
 clear h
 go_wp2
 refine bodyPost_ret (v:=.agg #[.int .i64 2,.int .i64 2,.int .i64 2,.int .i64 2]) (by simp[results,Tryz.results197,go_sem]) rfl ⟨by rw[HR.out],?_⟩
 exact(Below.refl _ _).alloc (Nat.le_refl _) _
theorem allowed_any (p:Int) (w:World):Calls Tryz.prog 197 #[.int .i64 p] w fun e w'=>e=.returned (rowV p)∧Below w.heap.size w w':=by
 rcases us_cases p with h|h|h|h|h|h|h|h
 ·exact allowed_1 p w h
 ·exact allowed_2 p w h
 ·exact allowed_3 p w h
 ·exact allowed_4 p w h
 ·exact allowed_5 p w h
 ·exact allowed_6 p w h
 ·exact allowed_7 p w h
 ·exact allowed_8 p w h
theorem pick0 (a b c d:Int) (w:World):(Instr.index 267 (.agg #[.int .i64 a,.int .i64 b,.int .i64 c,.int .i64 d]) (.int .i64 0)).run Tryz.prog w=.ok (.int .i64 a) w:=by kernel_rfl
theorem pick1 (a b c d:Int) (w:World):(Instr.index 267 (.agg #[.int .i64 a,.int .i64 b,.int .i64 c,.int .i64 d]) (.int .i64 1)).run Tryz.prog w=.ok (.int .i64 b) w:=by kernel_rfl
theorem pick2 (a b c d:Int) (w:World):(Instr.index 267 (.agg #[.int .i64 a,.int .i64 b,.int .i64 c,.int .i64 d]) (.int .i64 2)).run Tryz.prog w=.ok (.int .i64 c) w:=by kernel_rfl
theorem pick3 (a b c d:Int) (w:World):(Instr.index 267 (.agg #[.int .i64 a,.int .i64 b,.int .i64 c,.int .i64 d]) (.int .i64 3)).run Tryz.prog w=.ok (.int .i64 d) w:=by kernel_rfl
theorem al_any (p:Int) (s d:Bool) (w:World):Calls Tryz.prog 143 #[.int .i64 p,.bool s,.bool d] w fun e w'=>e=.returned (.int .i64 (al p s d))∧Below w.heap.size w w':=by
 have k0:=pick0
 have k1:=pick1
 have k2:=pick2
 have k3:=pick3
 have o1:bits BinOp.or IntKind.i64 0 1=1:=by decide
 have o2:bits BinOp.or IntKind.i64 0 2=2:=by decide
 have o3:bits BinOp.or IntKind.i64 1 2=3:=by decide
 cases s <;> cases d
 all_goals
  go_enter Tryz.func143,Tryz.ntmps143
  go_wp2_with fail
  refine(allowed_any p _).mono ?_
  rintro e w1 ⟨rfl,b1⟩
  unfold rowV
  go_wp2
  go_ret
  exact⟨rfl,b1⟩
end Go.Proofs.YtdlkjofnnefjfaaGreatDoor.Policy

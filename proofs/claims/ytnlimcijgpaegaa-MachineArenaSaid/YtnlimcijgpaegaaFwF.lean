import Derived.Test.YtnlimcijgpaegaaFwE

set_option linter.all false

namespace Go.Fw
open Go
variable {P:Program}
structure CallU (P:Program) (f:FuncId) (args:List AV) (σ:List AObj) (k:AV→List AObj→Prop):Prop where
  fk:fok P f=true
  ec:EC P f args σ k
def envU (P:Program) (jk:TypeId→AV) (zer:TypeId→AV) (wr eg:Nat→Bool) (ps:List (PCon P)):Env:=⟨zer,wr,eg,jk,pcL ps,fun f args σ k=>CallU P f args σ k,fun _ _=>False⟩
theorem envUOk {jk:TypeId→AV} {zer:TypeId→AV} {wr eg:Nat→Bool} {ps:List (PCon P)} (hz:∀ t v,zeroT P t=some v→RC (fun _ _=>none) (zer t) v):EnvOk P (envU P jk zer wr eg ps) where
  zero:=hz
  pc:=(envJOk (jk:=jk) (wr:=wr) (eg:=eg) (ps:=ps) (es:=[]) hz).pc
  ec:=fun f args σ k h=>⟨h.fk,h.ec.xec⟩
section
variable {jk zer:TypeId→AV} {wr eg:Nat→Bool} {ps:List (PCon P)}
theorem envu_zero {t:TypeId}:(envU P jk zer wr eg ps).zero t=zer t:=rfl
theorem envu_wr {t:Nat}:(envU P jk zer wr eg ps).wr t=wr t:=rfl
theorem envu_eg {t:Nat}:(envU P jk zer wr eg ps).eg t=eg t:=rfl
theorem envu_jk {t:TypeId}:(envU P jk zer wr eg ps).jk t=jk t:=rfl
theorem envu_pc {f:FuncId} {args:List AV}:(envU P jk zer wr eg ps).pc f args=pcL ps f args:=rfl
theorem envu_ec {f:FuncId} {args:List AV} {σ:List AObj} {k:AV→List AObj→Prop}:(envU P jk zer wr eg ps).ec f args σ k=CallU P f args σ k:=rfl
end
attribute [go_sem] envu_zero envu_wr envu_eg envu_jk envu_pc envu_ec
end Go.Fw
